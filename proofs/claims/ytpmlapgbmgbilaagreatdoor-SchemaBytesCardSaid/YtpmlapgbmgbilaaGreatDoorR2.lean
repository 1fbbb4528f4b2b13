/- Merged texts: S3. No statement of the program is proved here. -/
import Derived.Test.YtpmlapgbmgbilaaGreatDoorR1
set_option linter.unusedSimpArgs false
set_option linter.unusedVariables false
set_option maxRecDepth 100000
set_option maxHeartbeats 8000000
section
namespace Go.Sh
open Go Go.RowKit
section
section
variable{Bs:Base}{s:FS}{a:Act}{w w':World}{E E':Env}
theorem Sim.rowUp(h:Sim Bs s a w E){d e W n n':Nat}(hr:s.r d=some (e,W,n))(hn:n<n')
  (hk:∀b o u,E.K b o→w.cell? ⟨b,o,none⟩=some u→E'.K b o∧w'.cell? ⟨b,o,none⟩=some u) (hβ:E'.β=E.β) (hι:E'.ι=E.ι) (hγ:∀d',d'≠d→E'.γ d'=E.γ d')
  (hblk:∀k,k<w.heap.size→(∀cap,E.γ d≠some (k,cap))→w'.heap[k]?=w.heap[k]?)
  {b cap:Nat} (hb:E'.γ d=some (b,cap)) (hb0:Bs.w0.heap.size≤b∨Bs.X d b) (hrow:RowAt w' E' b cap e W n') (hbb:(∃c,E.γ d=some (b,c))∨w.heap.size≤b)
  (hK':∀k o,E'.K k o→E.K k o∨k=b) (hos:w'.os=w.os) (htape:w'.tape=w.tape) (hout:w'.output=w.output) (hsize:w.heap.size≤w'.heap.size):
  Sim Bs (s.setR d (e,W,n')) a w' E':=by
 have hrr:∀d' e' W' m,(s.setR d (e,W,n')).r d'=some (e',W',m)→(s.r d'=some (e',W',m)∧E'.γ d'=E.γ d')∨(∃q,s.r d'=some (e',W',q)∧q<m):=by
  intro d' e' W' m h1;rcases z0d h1 with⟨x1,x2⟩|⟨hd,h1⟩
  ·subst x1;cases x2;exact .inr ⟨n,hr,hn⟩
  ·exact .inl ⟨h1,hγ d' hd⟩
 have hmaps:Maps w w':=by
  intro k o ho hm;have hlt:=(gA hm).1;refine(hblk k hlt (fun cap hg=> ?_)).trans hm;rcases h.mem.row d e W n hr with⟨h1,_⟩|⟨b',cap',h1,_,h3⟩
  ·rw[h1]at hg;cases hg
  ·rw[h1]at hg;cases hg;obtain⟨cur,hc,_⟩:=h3.cells;rw[hm]at hc;cases hc;cases ho
 have hm:∀{x:TV} {v:Value},RelT w E s.r x v→RelT w' E' (s.setR d (e,W,n')).r x v:=fun hx=>hx.mono hk (fun _ _=>by rw[hβ,hι];exact⟨rfl,rfl⟩) (fun d' e' W' m _ h1=>hrr d' e' W' m h1) hmaps;have hnb:∀d' cs,s.b d'=some cs→E.β d'≠b:=by
  intro d' cs h1;rcases hbb with⟨c,hc⟩|hc
  ·exact h.mem.br d' d cs _ b c h1 hr hc
  ·have:=(h.mem.box d' cs h1).1.lt;omega
 have hnr:∀d' q b' c',d'≠d→s.r d'=some q→E.γ d'=some (b',c')→b'≠b:=by
  intro d' q b' c' hd h1 h2 h3;subst h3;rcases hbb with⟨c,hc⟩|hc
  ·exact hd (h.mem.rr d' d q _ b' c' c h1 hr h2 hc)
  ·rcases h.mem.row d' q.1 q.2.1 q.2.2 h1 with⟨h4,_⟩|⟨b2,c2,h4,_,h5⟩
   ·rw[h4]at h2;cases h2
   ·rw[h4]at h2;cases h2;obtain⟨cur,hcur,_⟩:=h5.cells;have:=(gA hcur).1;omega
 refine h.step rfl ⟨fun d' cs hd=> ?_,fun d' e' W' m hd=> ?_,fun d1 d2 c1 c2 h1 h2 h3=> ?_,fun d1 d2 c q b1 cap1 h1 h2 h3=> ?_,fun d1 d2 q q' b1 c1 c2 h1 h2 h3 h4=> ?_,fun k o hko=> ?_,?_,fun k o u h1 h2=> ?_,fun k o h1=> ?_,⟨fun d' ho=>by rw[hβ];exact h.mem.pas.β d' ho,fun d' ho h0=> ?_,fun d' e' W' m ho hd=> ?_⟩⟩ hk (fun _ _=>by rw[hβ,hι];exact⟨rfl,rfl⟩) (fun d' e' W' m _ h1=>hrr d' e' W' m h1) (fun d' z p hd=> ?_) (by rw[hι];exact h.ii) hmaps
 ·obtain⟨h1,h2⟩:=h.mem.box d' cs hd;rw[hβ];have hsame:w'.heap[E.β d']?=w.heap[E.β d']?:=hblk _ h1.lt (fun c hc=>h.mem.br d' d cs _ _ c hd hr hc rfl);refine⟨⟨Nat.lt_of_lt_of_le h1.lt hsize,(by rw[hsame];exact h1.obj),fun o=>(World.frozen?_of_block (w:=w) (a:=⟨E.β d',o,none⟩) hsame).trans (h1.fz o),fun j c hc=> ?_,fun o ho=> ?_⟩,h2⟩
  ·obtain⟨v,c1,c2,c3⟩:=h1.cell j c hc;exact⟨v,(World.cell?_of_block (w:=w) (a:=⟨E.β d',j,none⟩) hsame).trans c1,c2,hm c3⟩
  ·rcases hK' _ _ ho with h3|h3
   ·exact h1.out o h3
   ·exact hnb d' cs hd h3
 ·rcases z0d hd with⟨x1,x2⟩|⟨hdd,hd⟩
  ·subst x1;cases x2;exact .inr ⟨b,cap,hb,hb0,hrow⟩
  ·rw[hγ d' hdd];rcases h.mem.row d' e' W' m hd with h1|⟨b',c',h1,h2,h3⟩
   ·exact .inl h1
   ·obtain⟨cur,hc,hs⟩:=h3.cells;have hlt:=(gA hc).1;have hne:=hnr d' _ b' c' hdd hd h1;refine .inr ⟨b',c',h1,h2,⟨cur,(hblk b' hlt (fun c hc'=>hdd (h.mem.rr d' d _ _ b' c' c hd hr h1 hc'))).trans hc,hs⟩,h3.le,h3.max,fun o ho=> ?_⟩;rcases hK' _ _ ho with h4|h4
    ·exact h3.out o h4
    ·exact absurd h4 hne
 ·rw[hβ]at h3;exact h.mem.bb d1 d2 c1 c2 h1 h2 h3
 ·rw[hβ];rcases z0d h2 with⟨x1,_⟩|⟨hdd,h2⟩
  ·subst x1;rw[hb]at h3;cases h3;exact hnb d1 c h1
  ·rw[hγ d2 hdd]at h3;exact h.mem.br d1 d2 c q b1 cap1 h1 h2 h3
 ·rcases z0d h1 with⟨x1,_⟩|⟨h5,y1⟩<;>rcases z0d h2 with⟨x2,_⟩|⟨h6,y2⟩
  ·rw[x1,x2]
  ·rw[x1,hb]at h3;cases h3;rw[hγ d2 h6]at h4;exact absurd rfl (hnr d2 q' _ c2 h6 y2 h4)
  ·rw[hγ d1 h5]at h3;rw[x2,hb]at h4;cases h4;exact absurd rfl (hnr d1 q _ c1 h5 y1 h3)
  ·rw[hγ d1 h5]at h3;rw[hγ d2 h6]at h4;exact h.mem.rr d1 d2 q q' b1 c1 c2 y1 y2 h3 h4
 ·rcases hK' k o hko with h1|rfl
  ·exact Nat.lt_of_lt_of_le (h.mem.lt k o h1) hsize
  ·obtain⟨cur,hc,_⟩:=hrow.cells;exact(gA hc).1
 ·refine⟨hos.trans h.mem.low.os,htape.trans h.mem.low.tape,hout.trans h.mem.low.output,Nat.le_trans h.mem.low.size hsize,fun k hk' hx=> ?_⟩;refine(hblk k (Nat.lt_of_lt_of_le hk' h.mem.low.size) (fun c hc=> ?_)).trans (h.mem.low.block k hk' hx);rcases h.mem.row d e W n hr with⟨h1,_⟩|⟨b1,c1,h1,h2,_⟩
  ·rw[h1]at hc;cases hc
  ·rw[h1]at hc;cases hc;rcases h2 with h2|h2
   ·omega
   ·exact hx d h2
 ·obtain⟨h3,h4⟩:=h.mem.keep k o u h1 h2;exact hk k o u h3 h4
 ·rcases hK' k o h1 with h2|rfl
  ·exact h.mem.knew k o h2
  ·rcases hb0 with h2|h2
   ·exact .inr (.inl h2)
   ·exact .inr (.inr ⟨d,h2⟩)
 ·by_cases hd:d'=d
  ·subst hd;obtain⟨n0,h1,_⟩:=h.mem.pas.row d' e W n ho hr;rw[h0]at h1;cases h1
  ·rw[hγ d' hd];exact h.mem.pas.γ d' ho h0
 ·rcases z0d hd with⟨x1,x2⟩|⟨hdd,hd⟩
  ·subst x1;cases x2;obtain⟨n0,h1,h2,h3⟩:=h.mem.pas.row d' e W n ho hr;exact⟨n0,h1,by omega,fun he=>by omega⟩
  ·rw[hγ d' hdd];exact h.mem.pas.row d' e' W' m ho hd
 ·rw[hι];obtain⟨h1,h2⟩:=h.itr d' z p hd;refine⟨(hblk _ (gA h1).1 (fun c hc=> ?_)).trans h1,h2⟩;rcases h.mem.row d e W n hr with⟨h3,_⟩|⟨b1,c1,h3,_,h4⟩
  ·rw[h3]at hc;cases hc
  ·rw[h3]at hc;cases hc;obtain⟨cur,h5,_⟩:=h4.cells;rw[h1]at h5;cases h5
structure News(w:World)(K:Nat→Nat→Prop)(W:Nat)(es:List (List PV))(news:List Value)(f:Nat→Nat→Value):Prop where
 len:∀cs∈es,cs.length=W
 at_:∀(i j:Nat) cs c,es[i]?=some cs→cs[j]?=some c→news[i*W+j]?=some (f i j)∧one (f i j)∧RelV w K c (f i j)
theorem z1g{w:World}{K:Nat→Nat→Prop}{W:Nat}{es:List (List PV)}{v:Value}(h:RelV w K (.sl W es) v):∃(b off cap:Nat) (p:Option Addr) (f:Nat→Nat→Value),v=.slice p es.length cap∧(es≠[]→p=some ⟨b,off,none⟩)∧es.length≤cap∧cap≤maxLen∧(∀cs∈es,cs.length=W)∧
  (∀(i j:Nat) cs c,es[i]?=some cs→cs[j]?=some c→(K b (off+i*W+j)∧w.cell? ⟨b,off+i*W+j,none⟩=some (f i j)∧one (f i j))∧RelV w K c (f i j)):=by
 cases h with
 |sl W es b off cap p f hp hcap hmax hW hc hs=>exact⟨b,off,cap,p,f,rfl,hp,hcap,hmax,hW,fun i j cs c h1 h2=>⟨hc i j cs c h1 h2,hs i j cs c h1 h2⟩⟩
theorem z4F{W i j n:Nat}(hi:i<n)(hj:j<W):i*W+j<n*W:=by
 have:=Nat.mul_le_mul_right W (show i+1≤n by omega)
 grind
theorem Sim.app{P:Program}(h:Sim Bs s a w E){d e W:Nat}{es es2:List (List PV)}{v x:Value}(hr:s.r d=some (e,W,es.length))(hv:RelT w E s.r (.own d W es) v)(hW:0<W)
  {t tx ty:TypeId} {i:TypeInfo} {z:Value} (ht:P.underlying t=some (.slice e)) (hi:P.info? e=some i) (hz:i.zero=some z) (hzl:z.cells.size=W) (his:i.size=W)
  {news:List Value} {f2:Nat→Nat→Value} (hnews:News w E.K W es2 news f2) (hsrc:Src P W tx x es2.length news w) (hfit:(es.length+es2.length)*i.bytes≤140737488355328) (h63:es.length+es2.length≤maxLen):
  ∃v' w' E',(Builtin.append_ #[t,tx] ty #[v,x]).run P w=.ok v' w'∧E'.β=E.β∧E'.ι=E.ι∧Sim Bs (s.setR d (e,W,es.length+es2.length)) a w' E'∧RelT w' E' (s.setR d (e,W,es.length+es2.length)).r (.own d W (es++es2)) v':=by
 cases hv with
 |own _ _ _ _ hrel hown=>
 obtain⟨_,hval⟩:=hown e W es.length hr;obtain⟨_,rfl⟩:=hval rfl;have hnl:=hsrc.newsLen;by_cases h0:es2=[]
 ·subst h0;have hnews0:news=[]:=List.eq_nil_of_length_eq_zero (by simpa using hnl);subst hnews0;have hset:s.setR d (e,W,es.length+([]:List (List PV)).length)=s:=by
   unfold FS.setR;have:z0I s.r d (e,W,es.length+([]:List (List PV)).length)=s.r:=by
    funext j;by_cases hj:j=d
    ·subst hj;rw[z5t];simp[hr]
    ·rw[zcW _ _ hj]
   rw[this]
  have hsrc':Src P i.size tx x 0 [] w:=by rw[his];exact hsrc
  refine⟨hdr (E.γ d) es.length,w,E,?_,rfl,rfl,by rw[hset];exact h,by rw[hset,List.append_nil];exact .own d W es _ hrel hown⟩;rcases h.mem.row d e W es.length hr with⟨h1,h2⟩|⟨b,cap,h1,h2,h3⟩
  ·rw[h1,h2];have:=run_append_nothing (P:=P) w t tx ty e i ht hi none 0 0 (Nat.le_refl _) x hsrc';simpa [hdr]using this
  ·rw[h1];have:=run_append_nothing (P:=P) w t tx ty e i ht hi (some ⟨b,0,none⟩) es.length cap h3.le x hsrc';simpa [hdr]using this
 have hpos:0<es2.length:=List.length_pos_iff.2 h0;have hsrc':Src P i.size tx x es2.length news w:=by rw[his];exact hsrc
 obtain⟨B,off,capR,p,f,hveq,hp,_,_,hWes,hcs⟩:=z1g hrel;have hlt2:∀{i j:Nat} {cs:List PV} {c:PV},es2[i]?=some cs→cs[j]?=some c→i<es2.length∧j<W:=by
  intro i j cs c h1 h2;have h3:=(gJ h1).1;have h4:=(gJ h2).1;rw[hnews.len cs (gM h1)]at h4;exact⟨h3,h4⟩
 have hlt1:∀{i j:Nat} {cs:List PV} {c:PV},es[i]?=some cs→cs[j]?=some c→i<es.length∧j<W:=by
  intro i j cs c h1 h2;have h3:=(gJ h1).1;have h4:=(gJ h2).1;rw[hWes cs (gM h1)]at h4;exact⟨h3,h4⟩
 have hread:∀(w':World) (E':Env) (b cap:Nat),(∀k o u,E.K k o→w.cell? ⟨k,o,none⟩=some u→E'.K k o∧w'.cell? ⟨k,o,none⟩=some u)→
   (∀o,o<(es.length+es2.length)*W→E'.K b o)→
   (∀(i j:Nat) cs c,es[i]?=some cs→cs[j]?=some c→w'.cell? ⟨b,i*W+j,none⟩=some (f i j))→
   (∀(j:Nat) u,news[j]?=some u→w'.cell? ⟨b,es.length*W+j,none⟩=some u)→es.length+es2.length≤cap→cap≤maxLen→
   E'.γ d=some (b,cap)→RelT w' E' (s.setR d (e,W,es.length+es2.length)).r (.own d W (es++es2)) (.slice (some ⟨b,0,none⟩) (es.length+es2.length) cap):=by
  intro w' E' b cap hk hKn hc1 hc2 hle hmax hg;have hlen:(es++es2).length=es.length+es2.length:=by simp
  refine .own d W (es++es2) _ ?_ (fun e' W' n hn=> ?_)
  ·rw[←hlen];refine .sl W (es++es2) b 0 cap _ (fun i j=>if i<es.length then f i j else f2 (i-es.length) j) (fun _=>rfl) (by rw[hlen];exact hle) hmax (fun cs hcs'=> ?_) (fun i j cs c h1 h2=> ?_) (fun i j cs c h1 h2=> ?_)
   ·rcases List.mem_append.1 hcs' with h1|h1
    ·exact hWes cs h1
    ·exact hnews.len cs h1
   ·by_cases hi':i<es.length
    ·rw[List.getElem?_append_left hi']at h1;have hj:=(hlt1 h1 h2).2;refine⟨hKn _ ?_,?_,?_⟩
     ·have:=z4F (n:=es.length+es2.length) (W:=W) (i:=i) (j:=j) (by omega) hj;omega
     ·simp only[hi',if_true,Nat.zero_add];exact hc1 i j cs c h1 h2
     ·simp only[hi',if_true];exact(hcs i j cs c h1 h2).1.2.2
    ·rw[List.getElem?_append_right (by omega)]at h1;obtain⟨hi2,hj⟩:=hlt2 h1 h2;obtain⟨n1,n2,_⟩:=hnews.at_ _ _ _ _ h1 h2;have hidx:0+i*W+j=es.length*W+((i-es.length)*W+j):=by
      rw[Nat.zero_add,←Nat.add_assoc,←Nat.add_mul];congr 2;omega
     refine⟨hKn _ ?_,?_,?_⟩
     ·have:=z4F (n:=es.length+es2.length) (W:=W) (i:=i) (j:=j) (by omega) hj;omega
     ·simp only[hi',if_false];rw[hidx];exact hc2 _ _ n1
     ·simp only[hi',if_false];exact n2
   ·by_cases hi':i<es.length
    ·rw[List.getElem?_append_left hi']at h1;simp only[hi',if_true];exact(hcs i j cs c h1 h2).2.mono hk
    ·rw[List.getElem?_append_right (by omega)]at h1;simp only[hi',if_false];exact(hnews.at_ _ _ _ _ h1 h2).2.2.mono hk
  ·simp only[FS.setR,z5t,Option.some.injEq,Prod.mk.injEq]at hn;obtain⟨rfl,rfl,rfl⟩:=hn;exact⟨by rw[hlen];exact Nat.le_refl _,fun _=>⟨rfl,by rw[hg];rfl⟩⟩
 rcases h.mem.row d e W es.length hr with⟨h1,h2⟩|⟨b,cap,h1,h2,h3⟩
 ·
  have hes:es=[]:=List.eq_nil_of_length_eq_zero h2;subst hes;let cap':=grownCap w (0+es2.length) 0 e
  have hcap1:es2.length≤cap':=by have:=grownCap_ge w (0+es2.length) 0 e;simpa [cap']using this
  have hcap2:cap'≤maxLen:=grownCap_le_maxLen w _ 0 e (by simpa using h63);let cells:Array Value:=(([]:List Value)++news).toArray++Builtin.zeroCells z.cells (cap'-(0+es2.length))
  have hcsz:cells.size=cap'*W:=by
   simp only[cells,Array.size_append,List.nil_append,List.size_toArray,hnl,Builtin.zeroCells,Array.size_map,Array.size_range,hzl,Nat.zero_add];rw[←Nat.add_mul];congr 1;omega
  have hrun:=run_append_grow_src (P:=P) w t tx ty e i z ht hi hz none 0 0 [] (run_firstCells_none _ _ _ _ _) x es2.length news hsrc' (by omega) (by have:=h63;unfold maxLen at this;simp at this ⊢;omega)
   (growslice_fits (by omega) (by simpa using hfit))
  let w':=w.drew.alloc (.cells cells e)
  let E':Env:={ K:=fun k o=>E.K k o∨(k=w.heap.size∧o<es2.length*W),β:=E.β,ι:=E.ι,γ:=fun j=>if j=d then some (w.heap.size,cap')else E.γ j }
  have hb:Below w.heap.size w w':=((Below.refl _ _).drew).alloc (Nat.le_refl _) _;have hk:∀k o u,E.K k o→w.cell? ⟨k,o,none⟩=some u→E'.K k o∧w'.cell? ⟨k,o,none⟩=some u:=fun k o u hk1 hk2=>⟨.inl hk1,(hb.cell (p:=⟨k,o,none⟩) (z1y hk2)).trans hk2⟩
  have hnew:w'.heap[w.heap.size]?=some (.cells cells e (0,0)):=heap_alloc_new w.drew _;have hg:E'.γ d=some (w.heap.size,cap'):=by simp[E']
  have hcell:∀j u,cells[j]?=some u→w'.cell? ⟨w.heap.size,j,none⟩=some u:=fun j u hu=>by rw[cell_of_row w' _ _ _ _ _ hnew];exact hu
  refine⟨.slice (some ⟨w.heap.size,0,none⟩) (0+es2.length) cap',w',E',?_,rfl,rfl,?_,?_⟩
  ·rw[h1];exact hrun
  ·refine h.rowUp hr (by simp;omega) hk rfl rfl (fun d' hd'=>by simp[E',hd']) (fun k hk' _=>hb.block k hk') hg (.inl h.mem.low.size) ⟨⟨cells,hnew,hcsz⟩,by simpa using hcap1,hcap2,fun o ho=> ?_⟩ (.inr (Nat.le_refl _)) (fun k o ho=> ?_) hb.os hb.tape hb.output hb.size
   ·rcases ho with ho|⟨_,ho⟩
    ·have:=h.mem.lt _ _ ho;omega
    ·simpa using ho
   ·rcases ho with ho|⟨ho,_⟩
    ·exact .inl ho
    ·exact .inr ho
  ·have:=hread w' E' w.heap.size cap' hk (fun o ho=> .inr ⟨rfl,by simpa using ho⟩) (fun i j cs c h1=>by simp at h1) (fun j u hu=>by
    have hj:j<news.length:=(gJ hu).1;refine hcell _ _ ?_;simp only[cells,List.nil_append,List.length_nil,Nat.zero_mul,Nat.zero_add];rw[Array.getElem?_append_left (by simpa using hj)];simpa using hu) (by simpa using hcap1) hcap2 hg
   simpa using this
 ·obtain⟨cur,hcur,hcsz⟩:=h3.cells;have hblt:b<w.heap.size:=(gA hcur).1;have hle:=h3.le;have hol:∀(i j:Nat) cs c,es[i]?=some cs→cs[j]?=some c→cur[i*W+j]?=some (f i j):=by
   intro i j cs c hi1 hi2;have hne:es≠[]:=by rintro rfl;simp at hi1
   have hpp:=hp hne;rw[h1]at hveq;simp only[hdr]at hveq;injection hveq with hv1 hv2 hv3
   rw[hpp]at hv1;have hv4:(⟨b,0,none⟩:Addr)=⟨B,off,none⟩:=by injection hv1
   have hB:b=B:=congrArg Addr.block hv4;have hoff:0=off:=congrArg Addr.off hv4;have hcell:=(hcs i j cs c hi1 hi2).1.2.1;rw[←hB,←hoff,cell_of_row w _ _ _ _ _ hcur,Nat.zero_add]at hcell;exact hcell
  by_cases hroom:es.length+es2.length≤cap
  ·
   have hin:es.length*W+news.length≤cur.size:=by
    rw[hnl,hcsz,←Nat.add_mul];exact Nat.mul_le_mul_right W hroom
   have hsome:∀j,j<news.length→(w.cell? ⟨b,es.length*W+j,none⟩).isSome=true:=fun j hj=>by
    rw[cell_of_row w _ _ _ _ _ hcur,Array.getElem?_eq_getElem (by omega)];rfl
   have hfrz:∀o,w.frozen? ⟨b,o,none⟩=false:=fun o=>by unfold World.frozen?;simp only[hcur];simp
   have hrun:=run_append_room_src (P:=P) w t tx ty e i ht hi b 0 es.length cap x es2.length news hsrc' hroom (fun j hj=>by rw[his,Nat.zero_add];exact hsome j hj) (fun j _=>hfrz _);rw[his,Nat.zero_add]at hrun;let w':=w.setCells b (es.length*W) news
   let E':Env:={ K:=fun k o=>E.K k o∨(k=b∧o<(es.length+es2.length)*W),β:=E.β,ι:=E.ι,γ:=E.γ }
   have hk:∀k o u,E.K k o→w.cell? ⟨k,o,none⟩=some u→E'.K k o∧w'.cell? ⟨k,o,none⟩=some u:=fun k o u hk1 hk2=>
    ⟨.inl hk1,(World.cell?_setCells_out _ _ _ _ _ (fun hkb _=>by
     have hkb':k=b:=hkb;subst hkb';exact .inl (h3.out o hk1))).trans hk2⟩
   have hother:∀k,k<w.heap.size→(∀c,E.γ d≠some (k,c))→w'.heap[k]?=w.heap[k]?:=fun k hk' hne=>z1v _ _ _ _ _ (by rintro rfl;exact hne _ h1);have hcur':∃cur',w'.heap[b]?=some (.cells cur' e (0,0))∧cur'.size=cap*W:=by
    clear hread hrun hsome hin hk hother hol hcs;have:∀(vs:List Value) (o:Nat) (w:World) (cur:Array Value),w.heap[b]?=some (.cells cur e (0,0))→∃cur',(w.setCells b o vs).heap[b]?=some (.cells cur' e (0,0))∧cur'.size=cur.size:=by
     intro vs
     induction vs with
     |nil=>exact fun o w cur hc=>⟨cur,hc,rfl⟩
     |cons v r ih=>
      intro o w cur hc;obtain⟨cur',q1,q2⟩:=ih (o+1) (w.setCell ⟨b,o,none⟩ v) (cur.setIfInBounds o v) (by simp[World.setCell,Array.getElem?_modify,hc]);exact⟨cur',by rw[World.setCells];exact q1,by simpa using q2⟩
    obtain⟨cur',q1,q2⟩:=this news (es.length*W) w cur hcur;exact⟨cur',q1,q2.trans hcsz⟩
   obtain⟨o1,o2,o3⟩:=z71 b news (es.length*W) w;refine⟨.slice (some ⟨b,0,none⟩) (es.length+es2.length) cap,w',E',?_,rfl,rfl,?_,?_⟩
   ·rw[h1];exact hrun
   ·refine h.rowUp hr (by omega) hk rfl rfl (fun _ _=>rfl) hother h1 h2 ⟨hcur',hroom,h3.max,fun o ho=> ?_⟩ (.inl ⟨cap,h1⟩) (fun k o ho=> ?_) o1 o2 o3 (by rw[z5E];exact Nat.le_refl _)
    ·rcases ho with ho|⟨_,ho⟩
     ·have:=h3.out o ho;have:=Nat.mul_le_mul_right W (show es.length≤es.length+es2.length by omega);omega
     ·exact ho
    ·rcases ho with ho|⟨ho,_⟩
     ·exact .inl ho
     ·exact .inr ho
   ·refine hread w' E' b cap hk (fun o ho=> .inr ⟨rfl,ho⟩) (fun i j cs c hi1 hi2=> ?_) (fun j u hu=> ?_) hroom h3.max h1
    ·obtain⟨hi3,hj⟩:=hlt1 hi1 hi2;have hlt:=z4F hi3 hj;rw[show w'.cell? ⟨b,i*W+j,none⟩=w.cell? ⟨b,i*W+j,none⟩ from World.cell?_setCells_out _ _ _ _ _ (fun _ _=> .inl hlt),cell_of_row w _ _ _ _ _ hcur];exact hol i j cs c hi1 hi2
    ·obtain⟨hj,rfl⟩:=gJ hu;exact World.cell?_setCells_in b news (es.length*W) w hsome j hj
  ·
   have hgt:cap<es.length+es2.length:=by omega
   let olds:List Value:=cur.toList.take (es.length*W)
   have hin:es.length*W≤cur.size:=by rw[hcsz];exact Nat.mul_le_mul_right W hle
   have hol2:olds.length=es.length*W:=by simp[olds];omega
   have hold:(Builtin.firstCells i.size es.length (.slice (some ⟨b,0,none⟩) es.length cap)).run P w.drew=.ok olds.toArray w.drew:=
    run_firstCells_some w.drew i.size es.length ⟨b,0,none⟩ es.length cap olds (by rw[his];exact hol2) (fun j u hu=>by
     rw[Addr.add_mid,Nat.zero_add];show w.cell? _=_;rw[cell_of_row w _ _ _ _ _ hcur];have hj:j<es.length*W:=by rw[←hol2];exact(gJ hu).1
     rw[←hu];simp[olds,hj])
   let cap':=grownCap w (es.length+es2.length) cap e
   have hcap1:es.length+es2.length≤cap':=grownCap_ge w _ _ e;have hcap2:cap'≤maxLen:=grownCap_le_maxLen w _ _ e h63;let cells:Array Value:=(olds++news).toArray++Builtin.zeroCells z.cells (cap'-(es.length+es2.length))
   have hcsz':cells.size=cap'*W:=by
    simp only[cells,Array.size_append,List.size_toArray,List.length_append,hol2,hnl,Builtin.zeroCells,Array.size_map,Array.size_range,hzl];rw[←Nat.add_mul,←Nat.add_mul];congr 1;omega
   have hrun:=run_append_grow_src (P:=P) w t tx ty e i z ht hi hz (some ⟨b,0,none⟩) es.length cap olds hold x es2.length news hsrc' hgt (by have:=h63;unfold maxLen at this;omega) (growslice_fits hgt hfit);let w':=w.drew.alloc (.cells cells e)
   let E':Env:={ K:=fun k o=>E.K k o∨(k=w.heap.size∧o<(es.length+es2.length)*W),β:=E.β,ι:=E.ι,γ:=fun j=>if j=d then some (w.heap.size,cap')else E.γ j }
   have hb:Below w.heap.size w w':=((Below.refl _ _).drew).alloc (Nat.le_refl _) _;have hk:∀k o u,E.K k o→w.cell? ⟨k,o,none⟩=some u→E'.K k o∧w'.cell? ⟨k,o,none⟩=some u:=fun k o u hk1 hk2=>⟨.inl hk1,(hb.cell (p:=⟨k,o,none⟩) (z1y hk2)).trans hk2⟩
   have hnew:w'.heap[w.heap.size]?=some (.cells cells e (0,0)):=heap_alloc_new w.drew _;have hg:E'.γ d=some (w.heap.size,cap'):=by simp[E']
   have hcell:∀j u,cells[j]?=some u→w'.cell? ⟨w.heap.size,j,none⟩=some u:=fun j u hu=>by rw[cell_of_row w' _ _ _ _ _ hnew];exact hu
   refine⟨.slice (some ⟨w.heap.size,0,none⟩) (es.length+es2.length) cap',w',E',?_,rfl,rfl,?_,?_⟩
   ·rw[h1];exact hrun
   ·refine h.rowUp hr (by omega) hk rfl rfl (fun d' hd'=>by simp[E',hd']) (fun k hk' _=>hb.block k hk') hg (.inl h.mem.low.size) ⟨⟨cells,hnew,hcsz'⟩,hcap1,hcap2,fun o ho=> ?_⟩ (.inr (Nat.le_refl _)) (fun k o ho=> ?_) hb.os hb.tape hb.output hb.size
    ·rcases ho with ho|⟨_,ho⟩
     ·have:=h.mem.lt _ _ ho;omega
     ·exact ho
    ·rcases ho with ho|⟨ho,_⟩
     ·exact .inl ho
     ·exact .inr ho
   ·refine hread w' E' w.heap.size cap' hk (fun o ho=> .inr ⟨rfl,ho⟩) (fun i j cs c hi1 hi2=> ?_) (fun j u hu=> ?_) hcap1 hcap2 hg
    ·obtain⟨hi3,hj⟩:=hlt1 hi1 hi2;have hlt:=z4F hi3 hj;refine hcell _ _ ?_;simp only[cells];rw[Array.getElem?_append_left (by simp[hol2];omega)];have:=hol i j cs c hi1 hi2;rw[List.getElem?_toArray,List.getElem?_append_left (by omega)];simp[olds,hlt,this]
    ·have hj:j<news.length:=(gJ hu).1;refine hcell _ _ ?_;simp only[cells];rw[Array.getElem?_append_left (by simp[hol2];omega)];rw[List.getElem?_toArray,List.getElem?_append_right (by omega),hol2,Nat.add_sub_cancel_left];exact hu
end
end
end Go.Sh
end
