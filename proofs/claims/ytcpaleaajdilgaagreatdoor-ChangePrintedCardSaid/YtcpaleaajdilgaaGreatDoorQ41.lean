/- Merged texts: S32 Zm12 Pk5 Zu5 S31 Pk6 Pk7 Zu6 Zu7. No statement of the program is proved here. -/
import Derived.Test.YtcpaleaajdilgaaGreatDoorQ38
import Derived.Test.YtcpaleaajdilgaaGreatDoorQ40
import Derived.Deep.RegionLaw
set_option linter.unusedSimpArgs false
set_option linter.unusedVariables false
set_option maxRecDepth 100000
set_option maxHeartbeats 8000000
section
namespace Go.Sh
open Go Go.RowKit
theorem zkW{P:Program}{g:Glob}{f:Nat}{xs:List TV}{e W:Nat}{es:List (List PV)}(hW:0<W)(hne:es≠[])(hb:z3q P f)
  (h:∀(w:World) (E:Env) (us:List Value),g.G w→(∀b o,E.K b o→b<w.heap.size)→xs.length=us.length→(∀(j:Nat) x v,xs[j]?=some x→us[j]?=some v→RelT w E (zm []) x v)→
   Calls P f us.toArray w fun o w'=>∃(v':Value) (K':Nat→Nat→Prop) (news:List Value) (F:Nat→Nat→Value),o=.returned v'∧w'.ownsRow w.heap.size e W v' es.length news∧Below w.heap.size w w'∧(∀b o,E.K b o→K' b o)∧
    (∀b o,K' b o→(E.K b o∨w.heap.size≤b)∧b<w'.heap.size∧v'.ownBlock≠some b)∧News w' K' W es news F):
  SCalls P g f xs [] (.bs 1000 0 es.length es.length) [.box (es.flatten.map TV.pv)]:=by
 refine⟨hb,fun w E us hG hm hX hl hr=>(h w E us hG hm.lt hl hr).mono ?_⟩;rintro o w' ⟨v',K',news,F,rfl,hown,hbel,hK1,hK2,hn⟩;have hk0:∀b o u,E.K b o→w.cell? ⟨b,o,none⟩=some u→w'.cell? ⟨b,o,none⟩=some u:=fun b o u h1 h2=>(hbel.cell (z1p h2)).trans h2;have hpos:0<es.length:=List.length_pos_iff.2 hne;obtain⟨hlen,hown⟩:=hown;rcases hown with⟨rfl,h0⟩|⟨k,cap,cur,rfl,hk,hcur,hle,hmax,hsz,htake⟩
 ·omega
 have hrow:w'.ownsRow w.heap.size e W (.slice (some ⟨k,0,none⟩) es.length cap) es.length news:=⟨hlen,.inr ⟨k,cap,cur,rfl,hk,hcur,hle,hmax,hsz,htake⟩⟩
 have hcell:∀(j:Nat) u,news[j]?=some u→w'.cell? ⟨k,j,none⟩=some u:=fun j u hj=>by
  grind [List.getElem?_eq_some_iff,World.ownsRow.cellAt]
 have hno:∀d,¬(start w E [] 0).old d:=z0W;have hkn:∀o,¬K' k o:=fun o ho=>(hK2 k o ho).2.2 rfl;refine⟨_,{ E with K:=K',β:=fun j=>if j=1000 then k else E.β j },rfl,⟨fun d cs hd=> ?_,fun d e' W' n hd=>(by grind [z4C]),fun d d' cs cs' h1 h2 _=> ?_,fun d d' cs q k cap _ h2=>(by grind [z4C]),fun d d' q q' k cap cap' h1=>(by grind [z4C]),fun b o ho=>(hK2 b o ho).2.1,z8q hbel,fun b o u h1 h2=>⟨hK1 b o h1,hk0 b o u h1 h2⟩,fun b o h1=> ?_,⟨fun d hd=>absurd hd (hno d),fun d hd=>absurd hd (hno d),fun d e W n hd=>absurd hd (hno d)⟩⟩,?_,⟨fun d h1 h2=>absurd h2 (by grind),fun d h1 h2=>absurd h2 (by grind),fun d e W n hd=>by simp[zm]at hd⟩⟩
 ·obtain⟨rfl,rfl⟩:=z5K hd;refine⟨⟨(gA hcur).1,⟨_,_,_,hcur⟩,fun o=> ?_,fun j c hj=> ?_,hkn⟩,.inl hk⟩
  ·grind [World.ownsRow.frozenAt]
  ·rw[List.getElem?_map]at hj;obtain⟨p,hp,rfl⟩:=gO hj;obtain⟨i,q,cs,h1,h2,rfl⟩:=z9b (fun cs h=>hn.len cs h) hp;obtain⟨n1,n2,n3⟩:=hn.at_ i q cs p h1 h2;exact⟨_,hcell _ _ n1,n2,.pv n3⟩
 ·grind [z5K]
 ·rcases(hK2 b o h1).1 with h1|h1
  ·exact .inl h1
  ·exact .inr (.inl h1)
 ·show RelT w' _ _ (.bs 1000 0 es.length es.length) (.slice (some ⟨k,0,none⟩) es.length cap);exact .bs (E:={ E with K:=K',β:=fun j=>if j=1000 then k else E.β j }) 1000 0 es.length es.length cap (Nat.le_refl _) hle hmax
end Go.Sh
end

section
namespace Go.Proofs.YtcpaleaajdilgaaGreatDoor
open Go Go.RowKit Go.Mor Go.Sh
def glN:Sh.Glob where
 G:=fun _=>True
 n:=0
 st:=fun _ _ _ _=>trivial
 le:=fun _ _=>Nat.zero_le _
theorem zpf(l:List V)(hl:l.length≤1000)(hf:∀v∈l,VFew v)(w:World)(K:Nat→Nat→Prop)(hK:∀b o,K b o→b<w.heap.size){c:Value}(hc:RelV w K (.sl 4 (V.rows l)) c):
  Calls Tryz.prog 241 #[c] w fun e w'=>∃v K',e=.returned v∧RelV w' K' (.sl 4 (V.rows l)) v∧Below w.heap.size w w'∧(∀b o u,K b o→w.cell? ⟨b,o,none⟩=some u→K' b o)∧∀b o,K' b o→(K b o∨w.heap.size≤b)∧b<w'.heap.size:=by
 have H:=z2b glN l hl hf;let E:Env:={ z2y w with K:=K }
 have hX:∀d k,¬z1w E [] d k:=by
  rintro d k (⟨cs,h1,_⟩|⟨q,cap,h1,_⟩)
  ·rw[z3b]at h1;cases h1
  ·rw[z4D]at h1;cases h1
 refine(H.2 w E [c] trivial ?_ (fun d k hd=>absurd hd (hX d k)) rfl ?_).mono ?_
 ·refine⟨fun d cs hd=> ?_,fun d e W n hd=> ?_,fun d d' cs cs' hd=> ?_,fun d d' cs q k cap hd=> ?_,fun d d' q q' k cap cap' hd=> ?_,fun k o hk=>hK k o hk,⟨rfl,rfl,rfl,Nat.le_refl _,fun _ _ _=>rfl⟩,fun k o u hk hu=>⟨hk,hu⟩,fun k o hk=> .inl hk,?_⟩
  ·rw[z3b]at hd;cases hd
  ·rw[z4D]at hd;cases hd
  ·rw[z3b]at hd;cases hd
  ·rw[z3b]at hd;cases hd
  ·rw[z4D]at hd;cases hd
  ·exact⟨fun d hd=>absurd hd (z0W d),fun d hd=>absurd hd (z0W d),fun d e W n hd=>absurd hd (z0W d)⟩
 ·intro j x v hx hv;cases j with
  |zero=>simp at hx hv;subst hx;subst hv;exact .pv hc
  |succ j=>simp at hx
 ·rintro e w' ⟨v,E',rfl,hM,hr,_⟩;refine⟨v,E'.K,rfl,?_,⟨hM.low.os,hM.low.tape,hM.low.output,hM.low.size,fun k hk=>hM.low.block k hk (fun d hd=>hX d k hd)⟩,fun b o u h1 h2=>(hM.keep b o u h1 h2).1,fun b o h=>⟨?_,hM.lt b o h⟩⟩
  ·cases hr with
   |own _ _ _ _ h _=>exact h
  ·rcases hM.knew b o h with h|h|⟨d,h⟩
   ·exact .inl h
   ·exact .inr h
   ·exact absurd h (hX d b)
theorem zh4{w:World}{b t:Nat}{cs:Array Value}(h:w.heap[b]?=some (.cells cs t (0,0)))(i:Nat):w.cell? ⟨b,i,none⟩=cs[i]?:=by simp[World.cell?,h]
theorem zqN{w:World}{b t:Nat}{cs:Array Value}(h:w.heap[b]?=some (.cells cs t (0,0)))(i:Nat):w.frozen? ⟨b,i,none⟩=false:=by simp[World.frozen?,h]
theorem zoM{p:Prop}(h:id p):p:=h
theorem zki{w:World}{K:Nat→Nat→Prop}{b off:Nat}{f:Nat→Nat→Value}{l:List V}(hcs:∀(i j:Nat) cs c,(V.rows l)[i]?=some cs→cs[j]?=some c→(K b (off+i*4+j)∧w.cell? ⟨b,off+i*4+j,none⟩=some (f i j)∧one (f i j))∧RelV w K c (f i j)){k:Nat}{x:V}(hx:l[k]?=some x):
  ∃q n cap,w.cell? ⟨b,off+k*4,none⟩=some (.int .i64 x.k)∧w.cell? ⟨b,off+k*4+1,none⟩=some (.int .i64 x.n)∧w.cell? ⟨b,off+k*4+2,none⟩=some (.string (str x.s))∧w.cell? ⟨b,off+k*4+3,none⟩=some (.slice q n cap)∧RelV w K (.sl 4 (V.rows x.l)) (.slice q n cap):=by
 have hr:(V.rows l)[k]?=some (V.row x):=by rw[z0k,List.getElem?_map,hx];rfl
 have e:V.row x=[.v (.int .i64 x.k),.v (.int .i64 x.n),.v (.string (str x.s)),.sl 4 (V.rows x.l)]:=z1k x;obtain⟨⟨_,h0,_⟩,r0⟩:=hcs k 0 _ _ hr (by rw[e];rfl);obtain⟨⟨_,h1,_⟩,r1⟩:=hcs k 1 _ _ hr (by rw[e];rfl);obtain⟨⟨_,h2,_⟩,r2⟩:=hcs k 2 _ _ hr (by rw[e];rfl);obtain⟨⟨_,h3,_⟩,r3⟩:=hcs k 3 _ _ hr (by rw[e];rfl);generalize f k 0=y0 at*;generalize f k 1=y1 at*;generalize f k 2=y2 at*;generalize f k 3=y3 at*;cases r0;cases r1;cases r2;obtain⟨b',off',cap',p',f',rfl,_⟩:=z0E r3;exact⟨_,_,_,h0,h1,h2,h3,r3⟩
theorem zpg(l:List V)(hl:l.length≤1000)(hne:l≠[])(hf:∀v∈l,VFew v)(w:World)(K:Nat→Nat→Prop)(hK:∀b o,K b o→b<w.heap.size){c:Value}(hc:RelV w K (.sl 4 (V.rows l)) c):
  Calls Tryz.prog 241 #[c] w fun o w'=>∃(v':Value) (K':Nat→Nat→Prop) (news:List Value) (F:Nat→Nat→Value),o=.returned v'∧w'.ownsRow w.heap.size 37 4 v' (V.rows l).length news∧Below w.heap.size w w'∧(∀b o,K b o→K' b o)∧
   (∀b o,K' b o→(K b o∨w.heap.size≤b)∧b<w'.heap.size∧v'.ownBlock≠some b)∧News w' K' 4 (V.rows l) news F:=by
 obtain⟨b,off,cap,p,f,rfl,hp,hcap,hmax,hW,hcs⟩:=z0E hc;obtain rfl:=hp (by cases l with|nil=>exact absurd rfl hne|cons x l=>simp[z0k]);unfold maxLen at hmax;have hlen:(V.rows l).length=l.length:=by simp[z0k]
 rw[hlen]at hcap ⊢;have HC:=Lib.hid (fun k x (hx:l[k]?=some x)=>zki hcs hx);have HK:=Lib.hid hK;have HF:=Lib.hid hf;clear hc hcs hp hW hK hf
 go_enter Tryz.func241,Tryz.ntmps241
 go_wp2_with fail
 go_loopw [3,8] (fun m i wr=>∃(k:Nat) (L:List VC) (p:Option Addr) (cap:Nat) (Kr:Nat→Nat→Prop),k≤l.length∧i=.int .i64 k∧m=.slice p L.length cap∧Hid (OwnR VR w.heap.size wr (.slice p L.length cap) L)∧Hid (L.map VC.v=l.take k)∧Hid (∀y∈L,RelV wr Kr (.sl 4 (V.rows y.v.l)) y.c)∧Below w.heap.size w wr∧Hid (∀b o u,K b o→w.cell? ⟨b,o,none⟩=some u→Kr b o)∧Hid (∀b o,Kr b o→(K b o∨w.heap.size≤b)∧b<wr.heap.size∧(Value.slice p L.length cap).ownBlock≠some b)) (fun _ i _=>l.length-(intOf i).toNat)
 case atStart=>exact⟨0,[],none,0,K,Nat.zero_le _,rfl,rfl,OwnR.nil _ _,rfl,(fun y hy=>by cases hy),Below.refl _ _,fun b o u h _=>h,fun b o h=>⟨.inl h,HK.out b o h,by simp[Value.ownBlock]⟩⟩
 case round=>
  obtain⟨k,L,p1,cap1,Kr,hk,rfl,rfl,hO,HL,HY,hb,HKr,HKb⟩:=hrel;have hLk:L.length=k:=by have:=congrArg List.length HL.out;simpa [Nat.min_eq_left hk]using this
  subst hLk;by_cases hlt:L.length<l.length
  ·obtain⟨x,hx⟩:∃x,l[L.length]?=some x:=⟨_,gE hlt⟩
   obtain⟨q,n,cp,h0,h1,h2,h3,hr⟩:=HC.out L.length x hx;have e0:=(hb.cell (z0f h0)).trans h0;have e1:=(hb.cell (z0f h1)).trans h1;have e2:=(hb.cell (z0f h2)).trans h2;have e3:=(hb.cell (z0f h3)).trans h3;have HX:=Lib.hid hx;have HN:Hid (∀W1:World,Below wr.heap.size wr W1→Calls Tryz.prog 241 #[.slice q n cp] W1 fun e w'=>∃v K',e=.returned v∧RelV w' K' (.sl 4 (V.rows x.l)) v∧Below W1.heap.size W1 w'∧(∀b o u,Kr b o→W1.cell? ⟨b,o,none⟩=some u→K' b o)∧∀b o,K' b o→(Kr b o∨W1.heap.size≤b)∧b<w'.heap.size):=fun W1 hB=>by
    have hm:=gM hx;have h4:=HF.out x hm;refine zpf x.l h4.len (fun y hy=>h4.sub hy) W1 Kr (fun b o h=>Nat.lt_of_lt_of_le (HKb.out b o h).2.1 hB.size) (hr.mono fun b o u a1 a2=>⟨HKr.out b o u a1 a2,?_⟩);exact(hB.cell (z0f ((hb.cell (z0f a2)).trans a2))).trans ((hb.cell (z0f a2)).trans a2)
   clear hx h0 h1 h2 h3 hr
   go_wp2_with fail
   have hal:Below wr.heap.size wr (wr.alloc (.cells #[.int .i64 x.k,.int .i64 x.n,.string (str x.s),.slice q n cp] 37)):=(Below.refl _ _).alloc (Nat.le_refl _) _;refine(HN.out _ hal).mono ?_;rintro e w2 ⟨v2,K2,rfl,hr2,hb2,hk2,hk2'⟩;have hlx:(V.rows x.l).length=x.l.length:=by simp[z0k]
   obtain⟨b2,off2,cp2,p2,f2,rfl, -⟩:=z0E hr2;rw[hlx]at hr2 ⊢;have N1:=(hb2.block _ (z1R (World.alloc_heap_new wr _))).trans (World.alloc_heap_new wr (.cells #[.int .i64 x.k,.int .i64 x.n,.string (str x.s),.slice q n cp] 37));have hbr:Below wr.heap.size wr w2:=hal.trans (hb2.mono hal.size);have HR2:=Lib.hid hr2;have HK2:=Lib.hid hk2;have HK3:=Lib.hid hk2';have HB2:=Lib.hid hb2;have HAL:=Lib.hid hal;clear hr2 hk2 hk2' hb2 hal HN;obtain⟨N,hN⟩:∃N,wr.heap.size=N:=⟨_,rfl⟩
   rw[hN]at N1 ⊢;have c0:=zh4 N1 0;have c1:=zh4 N1 1;have c2:=zh4 N1 2;have c3:=zh4 N1 3;have cf3:=zqN N1 3;simp only[List.getElem?_toArray,List.getElem?_cons_zero,List.getElem?_cons_succ]at c0 c1 c2 c3;obtain⟨Y,hY⟩:∃Y:VC,(⟨x,p2,cp2⟩:VC)=Y:=⟨_,rfl⟩
   have hYv:Y.v=x:=by rw[←hY]
   have hYc:VR.cells Y=[.int .i64 x.k,.int .i64 x.n,.string (str x.s),.slice p2 x.l.length cp2]:=by rw[←hY];rfl
   have hYs:Y.c=.slice p2 x.l.length cp2:=by rw[←hY];rfl
   obtain⟨W4,hW4⟩:∃W,((w2.setCell ⟨N,3,none⟩ (.slice p2 x.l.length cp2)).alloc (.cells #[.int .i64 x.k,.int .i64 x.n,.string (str x.s),.slice p2 x.l.length cp2] 37))=W:=⟨_,rfl⟩
   have hsz2:N<w2.heap.size:=z1R N1;have hst:∀b,b≠N→b<w2.heap.size→W4.heap[b]?=w2.heap[b]?:=fun b hn hb=>by
    rw[←hW4,Below.heap_alloc _ _ _ (by simpa [World.setCell]using hb)];exact heap_setCell_other _ _ _ _ hn
   have hsz4:W4.heap.size=w2.heap.size+1:=by rw[←hW4];simp[World.alloc,World.setCell]
   have hB4:Below wr.heap.size wr W4:=by
    rw[←hW4];exact(hbr.setCell (by show wr.heap.size≤N;omega) _).alloc (by have:=hbr.size;simpa [World.setCell]using this) _
   have hO4:OwnR VR w.heap.size W4 (.slice p1 L.length cap1) L:=hO.out.ext hB4;have hM4:IsR VR (fun _=>True) W4 [Y] (.slice (some ⟨w2.heap.size,0,none⟩) 1 1):=by
    have:=World.alloc_heap_new (w2.setCell ⟨N,3,none⟩ (.slice p2 x.l.length cp2)) (.cells #[.int .i64 x.k,.int .i64 x.n,.string (str x.s),.slice p2 x.l.length cp2] 37);rw[hW4,show(w2.setCell ⟨N,3,none⟩ (.slice p2 x.l.length cp2)).heap.size=w2.heap.size by simp[World.setCell]]at this;exact znH Y this hYc.symm
   have hlen4:L.length+[Y].length≤1000000:=by simp;omega
   have hb4:w.heap.size≤W4.heap.size:=Nat.le_trans hb.size hB4.size;have hpos4:0<[Y].length:=by simp
   have HSZ:=Lib.hid hsz4;have HST:=Lib.hid hst;clear N1 hsz4 hst
   go_wp2_with (at_builtin;apply zoM)
   unfold id;try rw[hW4]
   refine zfk (R:=VR) rfl _ _ rfl hO4 hM4 hpos4 rfl rfl hlen4 hb4 ?_;intro L3 g3 cap3 w4 hL3 hO3 hg3 hf3
   go_wp2_with fail
   have hown:∀b,(Value.slice p1 L.length cap1).ownBlock=some b→b<N:=fun b hb=>by rw[←hN];exact hO.out.lt b hb
   have hW1:(wr.alloc (.cells #[.int .i64 x.k,.int .i64 x.n,.string (str x.s),.slice q n cp] 37)).heap.size=N+1:=by rw[←hN];exact Array.size_push ..
   have k2:∀b o,K2 b o→b≠N∧b<w2.heap.size∧(Value.slice p1 L.length cap1).ownBlock≠some b∧(K b o∨w.heap.size≤b):=fun b o h=>by
    obtain⟨h1,h2⟩:=HK3.out b o h;rcases h1 with h1|h1
    ·obtain⟨a1,a2,a3⟩:=HKb.out b o h1;exact⟨by omega,h2,a3,a1⟩
    ·rw[hW1]at h1;have:=hb.size;exact⟨by omega,h2,fun e=>by have:=hown b e;omega,.inr (by omega)⟩
   have s2:∀b o u,K2 b o→w2.cell? ⟨b,o,none⟩=some u→w4.cell? ⟨b,o,none⟩=some u:=fun b o u h hu=>by
    obtain⟨a1,a2,a3,_⟩:=k2 b o h;have e1:=hg3.block b (by rw[HSZ.out];omega) (fun e=>a3 e.symm);rw[HST.out b a1 a2]at e1;rw[World.cell?_of_block (w:=w2) e1];exact hu
   have s1:∀b o u,Kr b o→wr.cell? ⟨b,o,none⟩=some u→K2 b o∧w4.cell? ⟨b,o,none⟩=some u:=fun b o u h hu=>by
    have e1:=(HAL.out.cell (z0f hu)).trans hu;have h2:=HK2.out b o u h e1;exact⟨h2,s2 b o u h2 ((HB2.out.cell (z0f e1)).trans e1)⟩
   have hL:=hL3.out;refine⟨⟨L.length+1,L3,some ⟨g3,0,none⟩,cap3,K2,by omega,by simp,rfl,hO3,?_,?_,?_,?_,?_⟩,by simp[intOf];omega⟩
   ·show _=_;rw[hL,List.map_append,HL.out,List.take_add_one,HX.out,List.map_singleton,hYv];rfl
   ·intro y hy;rw[hL]at hy;rcases List.mem_append.1 hy with hy|hy
    ·exact(HY.out y hy).mono s1
    ·obtain rfl:=List.mem_singleton.1 hy;rw[hYs,hYv];exact HR2.out.mono fun b o u h hu=>⟨h,s2 b o u h hu⟩
   ·exact(hb.trans (hB4.mono hb.size)).grown hg3 hb4 (fun k h=>hO.out.below k h)
   ·intro b o u h hu;exact(s1 b o u (HKr.out b o u h hu) ((hb.cell (z0f hu)).trans hu)).1
   ·intro b o h;obtain⟨_,a2,a3,a4⟩:=k2 b o h;refine⟨a4,?_,fun e=> ?_⟩
    ·have:=hg3.size;rw[HSZ.out]at this;omega
    ·have e:g3=b:=by simpa [Value.ownBlock]using e
     rcases hf3.out with h1|h1
     ·exact a3 (by rw[h1,e])
     ·rw[HSZ.out]at h1;omega
  ·have hk2:L.length=l.length:=by omega
   clear hk
   go_wp2_with fail
   refine bodyPost_ret (v:=.slice p1 L.length cap1) (by simp[results,Tryz.results241,go_sem]) rfl ?_;have hLl:L.map VC.v=l:=by rw[HL.out,hk2,List.take_length]
   refine⟨_,fun b o=>K b o∨Kr b o,L.flatMap z6M,fun i j=>(((L[i]?).map z6M).bind (·[j]?)).getD undef,rfl,?_,hb,fun b o h=> .inl h,?_,?_⟩
   ·rw[←hk2];exact hO.out
   ·rintro b o (h|h)
    ·have h1:=HK.out b o h;exact⟨.inl h,Nat.lt_of_lt_of_le h1 hb.size,fun e=>by have:=hO.out.below b e;omega⟩
    ·exact HKb.out b o h
   ·refine⟨fun cs hc=> ?_,fun i j cs c h1 h2=> ?_⟩
    ·rw[z0k]at hc;obtain⟨x,_,rfl⟩:=List.mem_map.1 hc;rw[z1k];rfl
    ·rw[z0k,←hLl,List.map_map,List.getElem?_map]at h1;obtain⟨y,hy,rfl⟩:=gO h1;have e:(V.row∘VC.v) y=[.v (.int .i64 y.v.k),.v (.int .i64 y.v.n),.v (.string (str y.v.s)),.sl 4 (V.rows y.v.l)]:=z1k y.v;rw[e]at h2;have hj:j<4:=(gJ h2).1;have hg:=z8d (R:=VR) L i y hy j hj;have hr:=(HY.out y (gM hy)).mono (K':=fun b o=>K b o∨Kr b o) (fun b o u a1 a2=>⟨.inr a1,a2⟩);have hF:((((L[i]?).map z6M).bind (·[j]?)).getD undef)=(z6M y)[j]?.getD undef:=by rw[hy];rfl
     rw[hF];have:j=0∨j=1∨j=2∨j=3:=by omega
     rcases this with rfl|rfl|rfl|rfl
     ·cases h2;exact⟨hg,rfl,.v _⟩
     ·cases h2;exact⟨hg,rfl,.v _⟩
     ·cases h2;exact⟨hg,rfl,.v _⟩
     ·cases h2;exact⟨hg,rfl,hr⟩
theorem zjk(g:Sh.Glob)(l:List V)(hl:l.length≤1000)(hne:l≠[])(hf:∀v∈l,VFew v):z6J g l:=by
 have hr:(V.rows l).length=l.length:=by simp[z0k]
 have:=zkW (P:=Tryz.prog) (g:=g) (f:=241) (xs:=[.pv (.sl 4 (V.rows l))]) (e:=37) (W:=4) (es:=V.rows l) (by decide) (fun e=>hne (List.eq_nil_of_length_eq_zero (by rw[←hr,e];rfl))) (z2b g l hl hf).1 (fun w E us hG hK hlen hrel=>by
  cases us with
  |nil=>simp at hlen
  |cons c us=>
   cases us with
   |cons _ _=>simp at hlen
   |nil=>
    have:=hrel 0 _ c rfl rfl;cases this with
    |pv h=>exact zpg l hl hne hf w E.K hK h)
 rw[hr]at this;exact this
end Go.Proofs.YtcpaleaajdilgaaGreatDoor
end

section
namespace Go.Mor
open Go
theorem z3T{α:Type}{l gs:List α}{i:Nat}(h:i≤l.length):(z16 l i gs).length=l.length+gs.length-(if i<l.length then 1 else 0):=by
 unfold z16
 grind
theorem zar{α:Type}{l gs:List α}{i:Nat}(h:i≤l.length)(j:Nat):(z16 l i gs)[j]?=if j<i then l[j]? else if j<i+gs.length then gs[j-i]? else l[j-gs.length+1]?:=by
 grind [List.length_take,z16,List.append_assoc]
structure Put(c:Cls)(h:Chg)(vals:List V)(i:Nat)(gs:List Fld)(ws:List V):Prop where
 le:i≤c.fs.length
 fs:z1a c h=z16 c.fs i gs
 vs:z23 c h vals=z16 vals i ws
 len:gs.length=ws.length
 few:(z16 c.fs i gs).length≤8
 new:∀(j:Nat) f,c.fs[j]?=some f→j≠i→∀g∈gs,f.n≠g.n
 dist:z6r gs
 right:∀g∈gs,zG g=true
 fit:∀(j:Nat) g w,gs[j]?=some g→ws[j]?=some w→zD w g.t=true
 own:∀f,c.fs[i]?=some f→f.n=h.f
theorem Put.fits{c:Cls}{h:Chg}{vals:List V}{i:Nat}{gs:List Fld}{ws:List V}(hp:Put c h vals i gs ws)(hf:FitC c vals):FitC ⟨c.n,z1a c h⟩ (z23 c h vals):=by
 have hr:=(z2f c).1 hf.r;have hle:=hp.le;have hl:=hf.len;have hln:=hp.len;rw[hp.fs,hp.vs];refine⟨(z2f _).2 ⟨hr.1,hp.few,fun f hm=> ?_,fun a b f g ha hb he=> ?_⟩,?_,fun j f v hj hv=> ?_⟩
 ·unfold z16 at hm;simp only[List.mem_append]at hm;rcases hm with(hm|hm)|hm
  ·grind
  ·exact hp.right f hm
  ·grind
 ·dsimp only at ha hb
  rw[zar hle]at ha hb;have hd:=hr.2.2.2;split at ha
  ·split at hb
   ·exact hd a b f g ha hb he
   ·split at hb
    ·exact absurd he (hp.new a f ha (by omega) g (gM hb))
    ·have:=hd _ _ f g ha hb he;omega
  ·split at ha
   ·split at hb
    ·exact absurd he.symm (hp.new b g hb (by omega) f (gM ha))
    ·split at hb
     ·have:=hp.dist _ _ f g ha hb he;omega
     ·exact absurd he.symm (hp.new _ g hb (by omega) f (gM ha))
   ·split at hb
    ·have:=hd _ _ f g ha hb he;omega
    ·split at hb
     ·exact absurd he (hp.new _ f ha (by omega) g (gM hb))
     ·have:=hd _ _ f g ha hb he;omega
 ·dsimp only
  grind [z3T]
 ·dsimp only at hj
  rw[zar hle]at hj;rw[zar (by omega)]at hv;split at hj
  ·rw[if_pos (by assumption)]at hv;exact hf.fit _ _ _ hj hv
  ·rw[if_neg (by assumption)]at hv;split at hj
   ·rw[if_pos (by omega)]at hv;exact hp.fit _ _ _ hj hv
   ·rw[if_neg (by omega),←hln]at hv;exact hf.fit _ _ _ hj hv
theorem z6l{c:Cls}{vals:List V}(hf:FitC c vals){s:zB}{t:Ty}(ht:zg t=true)(h:(zz c s t).is=true):zD ((zz c s t).val c t vals) t=true:=by
 unfold zz at h ⊢;split at h
 ·rw[if_pos (by assumption)];exact zcu t ht
 rename_i hs;rw[if_neg hs];split at h
 ·cases h
 rename_i he;rw[if_neg he];split at h
 ·rename_i hT;rw[if_pos hT];obtain⟨h0,h1⟩:=hT;generalize(rdV s).1=e at*;have hr:=(z2f c).1 hf.r;have hfa:z5B c.fs vals:=⟨fun f hm=>by have:=hr.2.2.1 f hm;unfold zG at this;simp at this;exact this.1.2,hf.len,hf.fit⟩
  have hev:z4c c vals e=(z1I c.fs vals 8 e,0):=by
   unfold z4c;rw[h0,hf.chk];rfl
  show zD (z4c c vals e).1 t=true;unfold z2q at h0 h1;split at h0
  ·rename_i hre;split at h0
   ·rename_i hrc;split at h0
    ·rename_i hty;have e1:(zl c.fs 8 e).1=t:=by
      generalize(zl c.fs 8 e).1=u at h1;obtain⟨k,o⟩:=u;obtain⟨k',o'⟩:=t
      grind [z0h]
     unfold z0q at hre
     grind [z5j]
    ·cases h0
   ·cases h0
  ·cases h0
 ·cases h
theorem zbN{c:Cls}{s b:zB}(h:z32 c.fs s b=true){j:Nat}{f:Fld}(hj:c.fs[j]?=some f)(hne:f.n≠b):f.n≠s:=by
 rintro rfl;unfold z32 at h
 grind [fieldAt,z6w,List.mem_of_getElem?]
theorem has_at{c:Cls}{s:zB}(h:z0M c.fs s=true):∃f,c.fs[atV c.fs s]?=some f∧f.n=s:=by
 unfold z0M at h;simp at h;unfold atV;unfold fieldAt at*;obtain⟨k,hk⟩:=Int.eq_ofNat_of_zero_le (show 0≤z0F (fun f:Fld=>f.n==s) c.fs by omega);obtain⟨f,h1,h2⟩:=z3m (fun f:Fld=>f.n==s) c.fs k hk
 grind
theorem z7d(g:Fld):z6r [g]:=fun a b f h ha hb _=>by
 grind
theorem zlk{g k:Fld}(hne:g.n≠k.n):z6r [g,k]:=fun a b f h ha hb he=>by
 match a,b with
 |0,0=>rfl
 |1,1=>rfl
 |0,1=>grind
 |1,0=>grind
 |0,b+2=>simp at hb
 |1,b+2=>simp at hb
 |a+2,_=>simp at ha
theorem zif{n:zB}{t:Ty}(hn:zb n=true)(ht:zg t=true):zG ⟨n,t,false⟩=true:=by grind [zG]
theorem zpL{c:Cls}{h:Chg}{vals:List V}(hf:FitC c vals)(ho:okV c h=true):∃i gs ws,Put c h vals i gs ws∧
  ((h.k=1∨h.k=5)→gs[0]?=some ⟨h.n,h.t,false⟩∧ws[0]?=some ((zz c h.x h.t).val c h.t vals))∧(h.k=4→gs[0]?=some ⟨h.f,h.t,false⟩∧ws[0]?=some ((zz c h.x h.t).val c h.t vals)):=by
 have hr:=(z2f c).1 hf.r;have hlen:=hf.len;unfold okV at ho;simp at ho;obtain⟨⟨_,hw⟩,hm⟩:=ho;have hd:=hr.2.2.2;have hsame:∀{j:Nat} {f:Fld},c.fs[j]?=some f→j≠atV c.fs h.f→z0M c.fs h.f=true→f.n≠h.f:=fun {j f} hj hne hh e=>by
  obtain⟨g,hg,he⟩:=has_at hh;exact hne (hd j _ f g hj hg (by rw[e,he]))
 have hk:h.k=1∨h.k=2∨h.k=3∨h.k=4∨h.k=5∨h.k=6:=by
  grind [zS,z0H]
 unfold zS at hw;rcases hk with k|k|k|k|k|k
 ·simp only[k,z0H,z0z,if_true,z1A,Bool.and_eq_true,decide_eq_true_eq]at hw hm;obtain⟨⟨h8,hfr⟩,hx⟩:=hm;refine⟨c.fs.length,[⟨h.n,h.t,false⟩],[(zz c h.x h.t).val c h.t vals],⟨Nat.le_refl _,?_,?_,rfl,?_,fun j f hj hne g hg=> ?_,z7d _,fun g hg=> ?_,fun j g w hj hw'=> ?_,fun f hj=> ?_⟩,fun _=>⟨rfl,rfl⟩,fun h4=>by omega⟩
  ·simp[z1a,k,z16]
  ·simp[z23,k,z16,←hlen]
  ·rw[z3T (Nat.le_refl _),if_neg (by omega)];simp;omega
  ·obtain rfl:=List.mem_singleton.1 hg;refine zbN hfr hj fun e=> ?_;have:=(z7I hf.r hj).1;rw[e]at this;exact absurd this (by decide)
  ·grind [List.mem_singleton,zif]
  ·grind [z6l]
  ·grind
 ·simp only[k,z0z,show ¬(2:Int)=1 by decide,if_false,if_true]at hm;obtain⟨f,ef,en⟩:=has_at hm;have hlt:=(gJ ef).1;refine⟨atV c.fs h.f,[],[],⟨by omega,by simp[z1a,k],by simp[z23,k],rfl,?_,fun j f hj hne g hg=>by simp at hg,fun a b f g ha=>by simp at ha,fun g hg=>by simp at hg,fun j g w hj=>by simp at hj,fun y hy=> ?_⟩,fun h4=>by omega,fun h4=>by omega⟩
  ·grind [z3T]
  ·grind
 ·simp only[k,z0H,z0z,show ¬(3:Int)=1 by decide,show ¬(3:Int)=2 by decide,show ¬(3:Int)=6 by decide,false_or,if_false,if_true,z1A,Bool.and_eq_true]at hw hm;obtain⟨hh,hfr⟩:=hm;obtain⟨f,ef,en⟩:=has_at hh;have hlt:=(gJ ef).1;obtain⟨v,ev⟩:∃v,vals[atV c.fs h.f]?=some v:=⟨_,gE (by omega)⟩
  have h3:=(z7I hf.r ef).2.2.1;refine⟨atV c.fs h.f,[⟨h.n,f.t,f.ix⟩],[v],⟨by omega,by simp[z1a,k,ef],?_,rfl,?_,fun j y hj hne g hg=> ?_,z7d _,fun g hg=> ?_,fun j g w hj hw'=> ?_,fun y hy=> ?_⟩,fun h4=>by omega,fun h4=>by omega⟩
  ·grind [zeH,atV,List.getElem?_eq_some_iff,List.set_getElem_self,z23]
  ·grind [z3T]
  ·obtain rfl:=List.mem_singleton.1 hg;refine zbN hfr hj fun e=> ?_;have:=(z7I hf.r hj).1;rw[e]at this;exact absurd this (by decide)
  ·grind [List.mem_singleton,zG]
  ·cases j with
   |zero=>simp at hj hw';subst hj;subst hw';exact(show zD _ f.t=true from hf.fit _ _ _ ef ev)
   |succ j=>simp at hj
  ·grind
 ·simp only[k,z0H,z0z,show ¬(4:Int)=1 by decide,show ¬(4:Int)=2 by decide,show ¬(4:Int)=6 by decide,show ¬(4:Int)=3 by decide,false_or,if_false,if_true,z1A,Bool.and_eq_true]at hw hm;obtain⟨hh,hx⟩:=hm;obtain⟨f,ef,en⟩:=has_at hh;have hlt:=(gJ ef).1;refine⟨atV c.fs h.f,[⟨f.n,h.t,false⟩],[(zz c h.x h.t).val c h.t vals],⟨by omega,by simp[z1a,k,ef],by simp[z23,k],rfl,?_,fun j y hj hne g hg=> ?_,z7d _,fun g hg=> ?_,fun j g w hj hw'=> ?_,fun y hy=> ?_⟩,fun h4=>by omega,fun _=>⟨by rw[en];rfl,rfl⟩⟩
  ·grind [z3T]
  ·grind
  ·grind [List.mem_singleton,zif]
  ·grind [z6l]
  ·grind
 ·simp only[k,z0H,z0z,show ¬(5:Int)=1 by decide,show ¬(5:Int)=2 by decide,show ¬(5:Int)=6 by decide,show ¬(5:Int)=3 by decide,show ¬(5:Int)=4 by decide,false_or,if_false,if_true,z1A,Bool.and_eq_true,decide_eq_true_eq]at hw hm;obtain⟨⟨⟨⟨⟨⟨hh,h8⟩,hnm⟩,hfr⟩,hfr2⟩,hx⟩,hx2⟩:=hm;have hnm:h.n≠h.m:=by grind
  obtain⟨f,ef,en⟩:=has_at hh;have hlt:=(gJ ef).1;refine⟨atV c.fs h.f,[⟨h.n,h.t,false⟩,⟨h.m,h.t,false⟩],[(zz c h.x h.t).val c h.t vals,(zz c h.o h.t).val c h.t vals],⟨by omega,by simp[z1a,k],by simp[z23,k],rfl,?_,fun j y hj hne g hg=> ?_,zlk hnm,fun g hg=> ?_,fun j g w hj hw'=> ?_,fun y hy=> ?_⟩,fun _=>⟨rfl,rfl⟩,fun h4=>by omega⟩
  ·grind [z3T]
  ·simp at hg
   grind [zbN]
  ·simp at hg
   grind [zif]
  ·match j with
   |0=>grind [z6l]
   |1=>grind [z6l]
   |j+2=>simp at hj
  ·grind
 ·simp only[k,z0z,show ¬(6:Int)=1 by decide,show ¬(6:Int)=2 by decide,show ¬(6:Int)=3 by decide,show ¬(6:Int)=4 by decide,show ¬(6:Int)=5 by decide,if_false,Bool.and_eq_true,decide_eq_true_eq]at hm;obtain⟨hh,hk3⟩:=hm;obtain⟨f,ef,en⟩:=has_at hh;have hlt:=(gJ ef).1;obtain⟨v,ev⟩:∃v,vals[atV c.fs h.f]?=some v:=⟨_,gE (by omega)⟩
  have h3:=(z7I hf.r ef).2.2.1;refine⟨atV c.fs h.f,[⟨f.n,f.t, !f.ix⟩],[v],⟨by omega,by simp[z1a,k,ef],?_,rfl,?_,fun j y hj hne g hg=> ?_,z7d _,fun g hg=> ?_,fun j g w hj hw'=> ?_,fun y hy=> ?_⟩,fun h4=>by omega,fun h4=>by omega⟩
  ·grind [zeH,atV,List.getElem?_eq_some_iff,List.set_getElem_self,z23]
  ·grind [z3T]
  ·grind
  ·grind [List.mem_singleton,zG]
  ·cases j with
   |zero=>simp at hj hw';subst hj;subst hw';exact(show zD _ f.t=true from hf.fit _ _ _ ef ev)
   |succ j=>simp at hj
  ·grind
end Go.Mor
end

section
namespace Go.Proofs.YtcpaleaajdilgaaGreatDoor
open Go Go.RowKit Go.Mor Go.Sh Go.Sh.Cd1 Go.Sh.Cd7
theorem z8b(l:List Fld)(s:zB):∃p:Nat,z1V l s=.tuple [I (p:Int),B (z0M l s)]∧(z0M l s=true→atV l s=p):=by
 unfold z1V z0M;by_cases h:fieldAt l s<0
 ·rw[if_pos h];exact⟨0,by simp[h],fun h'=>by simp[h]at h'⟩
 ·rw[if_neg h];refine⟨(fieldAt l s).toNat,?_,fun _=>rfl⟩;rw[decide_eq_false h,Int.toNat_of_nonneg (by omega)];rfl
theorem z4v(l:List Fld)(s b:zB):z32 l s b=(!z0M l s||s==b):=by unfold z32 z0M;simp
theorem zeR(g:Sh.Glob)(c:Cls)(h:Chg)(hc:ClsOk c)(hf:z0t h.f)(hn:z0t h.n)(hm:z0t h.m)(hx:RTx h.x)(ho:RTx h.o):zC g 59 [clT c,chT h] [] (B (okV c h)) []:=by
 have HC:=z8H g c hc;have HW:=zeO g h hf hn hm hx ho;have F1:=z3G g c h.f hc.len;have F2:=z3G g c h.n hc.len;have F3:=z3G g c h.m hc.len;have T1:=z9Z g h.x c h.t hx hc;have T2:=z9Z g h.o c h.t ho hc;obtain⟨p1,e1,a1⟩:=z8b c.fs h.f;obtain⟨p2,e2,a2⟩:=z8b c.fs h.n;obtain⟨p3,e3,a3⟩:=z8b c.fs h.m;rw[e1]at F1;rw[e2]at F2;rw[e3]at F3;have hlen:=hc.len;obtain⟨k,f,n,m,⟨tk,ot⟩,x,o⟩:=h
 dsimp only at*
 have hO:okV c ⟨k,f,n,m,⟨tk,ot⟩,x,o⟩=(zn c&&(zS ⟨k,f,n,m,⟨tk,ot⟩,x,o⟩&&z0z c ⟨k,f,n,m,⟨tk,ot⟩,x,o⟩)):=by unfold okV;rw[Bool.and_assoc]
 rw[hO];clear hO;have hk6:zS ⟨k,f,n,m,⟨tk,ot⟩,x,o⟩=true→(k=1∨k=2∨k=3∨k=4∨k=5∨k=6)∧((k=1∨k=3)→(n==[])=false):=fun hw=>by
  have hk:k=1∨k=2∨k=3∨k=4∨k=5∨k=6:=by
   unfold zS z0H at hw
   dsimp only at hw
   by_cases h1:k=1
   ·omega
   by_cases h2:k=2∨k=6
   ·omega
   by_cases h3:k=3
   ·omega
   by_cases h4:k=4
   ·omega
   by_cases h5:k=5
   ·omega
   simp[h1,h2,h3,h4,h5]at hw
  refine⟨hk,fun h13=> ?_⟩;have hrn:zb n=true:=by
   rcases h13 with rfl|rfl
   ·simp only[zS,z0H,z1A,if_true,Bool.and_eq_true]at hw;exact hw.1.1.1.1.2
   ·simp only[zS,z0H,z1A,show ¬(3:Int)=1 from by decide,show ¬(3:Int)=2 from by decide,show ¬(3:Int)=6 from by decide,false_or,if_false,if_true,Bool.and_eq_true]at hw;exact hw.1.1.1.1.2
  cases n with
  |nil=>revert hrn;decide
  |cons b r=>rfl
 generalize hwv:zS ⟨k,f,n,m,⟨tk,ot⟩,x,o⟩=bw at*;generalize hx1:(zz c x ⟨tk,ot⟩).is=b1 at*;generalize hx2:(zz c o ⟨tk,ot⟩).is=b2 at*;generalize hh1:z0M c.fs f=f1 at*;generalize hh2:z0M c.fs n=f2 at*;generalize hh3:z0M c.fs m=f3 at*;have w:=hc.len;refine za tf_146 ?_;unfold clT chT tyT B at*;cases hrc:zn c
 ·rw[hrc]at HC;simp only[vW,seval];refine z8 HC ?_;try trivial
 rw[hrc]at HC;cases bw with
 |false=>
  simp only[vW,seval];refine z8 HC ?_;refine z8 HW ?_;try trivial
 |true=>
 obtain⟨hk,hnn⟩:=hk6 rfl;clear hk6;simp only[vW,seval];refine z8 HC ?_;refine z8 HW ?_;refine z8 F1 ?_;refine z8 F2 ?_;refine z7 F3 ?_;simp only[vW,seval,clV];refine z7 T1 ?_;rcases hk with rfl|rfl|rfl|rfl|rfl|rfl
 ·have hm:z0z c ⟨1,f,n,m,⟨tk,ot⟩,x,o⟩=(decide (c.fs.length<8)&&(!f2&&b1)):=by
   simp only[z0z,z4v,show ¬(1:Int)=2 from by decide,show ¬(1:Int)=3 from by decide,show ¬(1:Int)=4 from by decide,show ¬(1:Int)=5 from by decide,if_false,if_true,hx1,hx2,hh1,hh2,hh3,hnn (.inl rfl)];simp only[Bool.or_false,Bool.and_assoc]
  rw[hm];clear hm;by_cases h8:c.fs.length<8
  ·have d8:(c.fs.length:Int)<8:=by omega
   rw[decide_eq_true h8];cases f2<;>cases b1<;>(
    simp only[vW,seval,d8,clV];try rfl)
  ·have d8:¬(c.fs.length:Int)<8:=by omega
   rw[decide_eq_false h8];cases f2<;>cases b1<;>(
    simp only[vW,seval,d8,clV];try rfl)
 ·have hm:z0z c ⟨2,f,n,m,⟨tk,ot⟩,x,o⟩=(f1):=by
   simp only[z0z,z4v,show ¬(2:Int)=1 from by decide,show ¬(2:Int)=3 from by decide,show ¬(2:Int)=4 from by decide,show ¬(2:Int)=5 from by decide,if_false,if_true,hx1,hx2,hh1,hh2,hh3]
  rw[hm];clear hm;simp only[vW,seval];try rfl
 ·have hm:z0z c ⟨3,f,n,m,⟨tk,ot⟩,x,o⟩=(f1&& !f2):=by
   simp only[z0z,z4v,show ¬(3:Int)=1 from by decide,show ¬(3:Int)=2 from by decide,show ¬(3:Int)=4 from by decide,show ¬(3:Int)=5 from by decide,if_false,if_true,hx1,hx2,hh1,hh2,hh3,hnn (.inr rfl)];simp only[Bool.or_false,Bool.and_assoc]
  rw[hm];clear hm;cases f1<;>cases f2<;>(
   simp only[vW,seval];try rfl)
 ·have hm:z0z c ⟨4,f,n,m,⟨tk,ot⟩,x,o⟩=(f1&&b1):=by
   simp only[z0z,z4v,show ¬(4:Int)=1 from by decide,show ¬(4:Int)=2 from by decide,show ¬(4:Int)=3 from by decide,show ¬(4:Int)=5 from by decide,if_false,if_true,hx1,hx2,hh1,hh2,hh3]
  rw[hm];clear hm;cases f1<;>cases b1<;>(
   simp only[vW,seval];try rfl)
 ·have hm:z0z c ⟨5,f,n,m,⟨tk,ot⟩,x,o⟩=(f1&&(decide (c.fs.length<8)&&(!(n==m)&&((!f2||n==f)&&((!f3||m==f)&&(b1&&b2)))))):=by
   simp only[z0z,z4v,show ¬(5:Int)=1 from by decide,show ¬(5:Int)=2 from by decide,show ¬(5:Int)=3 from by decide,show ¬(5:Int)=4 from by decide,if_false,if_true,hx1,hx2,hh1,hh2,hh3];simp only[Bool.or_false,Bool.and_assoc]
  rw[hm];clear hm;generalize hq1:(n==m)=q1;generalize hq2:(n==f)=q2;generalize hq3:(m==f)=q3;cases f1
  ·simp only[vW,seval,clV];try rfl
  by_cases h8:c.fs.length<8
  case neg=>
   have d8:¬(c.fs.length:Int)<8:=by omega
   rw[decide_eq_false h8];simp only[vW,seval,d8,clV];try rfl
  have d8:(c.fs.length:Int)<8:=by omega
  rw[decide_eq_true h8];cases q1
  case true=>
   simp only[vW,seval,d8,clV,hq1];try rfl
  have fin:(!f2||q2)=true→(!f3||q3)=true→b1=true→(b2=(true&&(true&&(!false&&((!f2||q2)&&((!f3||q3)&&(b1&&b2))))))):=fun r1 r2 r3=>by rw[r1,r2,r3];rfl
  cases f2
  ·cases f3
   ·cases b1
    ·simp only[vW,seval,d8,clV,hq1];try rfl
    ·simp only[vW,seval,d8,clV,hq1];refine z8 T2 ?_;try trivial
   ·cases q3
    ·simp only[vW,seval,d8,clV,hq1,hq3];try rfl
    ·cases b1
     ·simp only[vW,seval,d8,clV,hq1,hq3];try rfl
     ·simp only[vW,seval,d8,clV,hq1,hq3];refine z8 T2 ?_;try trivial
  ·cases q2
   ·simp only[vW,seval,d8,clV,hq1,hq2];try rfl
   ·cases f3
    ·cases b1
     ·simp only[vW,seval,d8,clV,hq1,hq2];try rfl
     ·simp only[vW,seval,d8,clV,hq1,hq2];refine z8 T2 ?_;try trivial
    ·cases q3
     ·simp only[vW,seval,d8,clV,hq1,hq2,hq3];try rfl
     ·cases b1
      ·simp only[vW,seval,d8,clV,hq1,hq2,hq3];try rfl
      ·simp only[vW,seval,d8,clV,hq1,hq2,hq3];refine z8 T2 ?_;try trivial
 ·have hm:z0z c ⟨6,f,n,m,⟨tk,ot⟩,x,o⟩=(f1&&decide ((c.fs.getD p1 z4e).t.k≤3)):=by
   simp only[z0z,z4v,show ¬(6:Int)=1 from by decide,show ¬(6:Int)=2 from by decide,show ¬(6:Int)=3 from by decide,show ¬(6:Int)=4 from by decide,show ¬(6:Int)=5 from by decide,if_false,if_true,hx1,hx2,hh1,hh2,hh3];cases f1
   ·rfl
   ·rw[a1 rfl]
  rw[hm];clear hm;cases f1
  ·simp only[vW,seval];refine z8 F1 ?_;try trivial
  obtain⟨y,ey⟩:∃y,c.fs[p1]?=some y:=by
   obtain⟨y,ey,_⟩:=Go.Mor.has_at (c:=c) hh1;exact⟨y,by rw[←a1 rfl];exact ey⟩
  rw[Go.Mor.getD_of ey];by_cases h3:y.t.k≤3
  ·simp only[vW,seval];refine z7 F1 ?_;simp only[vW,seval,clV,ey,h3];try rfl
  ·simp only[vW,seval];refine z7 F1 ?_;simp only[vW,seval,clV,ey,h3];try rfl
end Go.Proofs.YtcpaleaajdilgaaGreatDoor
end

section
namespace Go.Sh
open Go Go.RowKit
def z7Z{α:Type}(f:α→α→Bool):List α→List α→Bool
 |[],[]=>true
 |x::l,y::r=>match f x y with|true=>z7Z f l r|false=>false
 |_,_=>false
theorem z81{α:Type}{f:α→α→Bool}:∀{l r:List α},z7Z f l r=true→l.length=r.length∧∀(j:Nat) x y,l[j]?=some x→r[j]?=some y→f x y=true
 |[],[],_=>⟨rfl,fun j x y h=>by simp at h⟩
 |[],_::_,h=>by simp[z7Z]at h
 |_::_,[],h=>by simp[z7Z]at h
 |a::l,b::r,h=>by
  simp only[z7Z]at h;split at h
  ·rename_i hab;obtain⟨h1,h2⟩:=z81 h
   grind
  ·cases h
def zal:Int→Int→Bool
 | .ofNat a,.ofNat b=>Nat.beq a b
 | .negSucc a,.negSucc b=>Nat.beq a b
 |_,_=>false
theorem intB_eq:∀{a b:Int},zal a b=true→a=b
 | .ofNat a,.ofNat b,h=>congrArg Int.ofNat (Nat.eq_of_beq_eq_true h)
 | .negSucc a,.negSucc b,h=>congrArg Int.negSucc (Nat.eq_of_beq_eq_true h)
 | .ofNat _,.negSucc _,h=>by cases h
 | .negSucc _,.ofNat _,h=>by cases h
end Go.Sh
end

section
namespace Go.Mor
open Go
section
open Go.Sh
def zp9(e:zB):Bool:=Nat.ble 1 e.length&&Nat.ble e.length 100&&match z1W 1000 e with
 |some r=>zal r.2.2 0&&zal r.2.1 0
 |none=>false
theorem zp8:exL.all zp9=true:=by kernel_rfl
end
theorem znV(j:Int)(h0:0≤j)(h1:j<6):nmF j∈nmL:=by
 have:j=0∨j=1∨j=2∨j=3∨j=4∨j=5:=by omega
 rcases this with rfl|rfl|rfl|rfl|rfl|rfl<;>decide
theorem ze6:∀(rs:List RawF) (acc:List Fld),(∀f∈acc,f.n∈nmL)→∀f∈rs.foldl z1C acc,f.n∈nmL
 |[],acc,h=>h
 |r::rs,acc,h=>by
  refine ze6 rs _ fun f hf=> ?_;unfold z1C at hf;split at hf
  ·rcases List.mem_append.1 hf with hf|hf
   ·grind
   ·obtain rfl:=List.mem_singleton.1 hf;have h1:=zF r.n 6 (by omega);exact znV _ h1.1 h1.2
  ·grind
theorem zfs(x:Raw):∀f∈(z1Q x).fs,f.n∈nmL:=ze6 _ [] (by simp)
theorem zjN(j:Int)(h0:0≤j)(h1:j<6):zb (nmH j)=true∧(nmH j).length≤8:=by
 have:j=0∨j=1∨j=2∨j=3∨j=4∨j=5:=by omega
 rcases this with rfl|rfl|rfl|rfl|rfl|rfl<;>decide
theorem zgy(x:Int):(nmH (pick x 6)).length≤20:=by
 grind [zF,zjN]
theorem z5v{e:zB}(h:e∈exL):1≤e.length∧e.length≤100∧∃r,z1W 1000 e=some r∧r.2.2=0∧r.2.1=0:=by
 have h1:=List.all_eq_true.1 zp8 e h;unfold zp9 at h1;simp only[Bool.and_eq_true]at h1;refine⟨Nat.le_of_ble_eq_true h1.1.1,Nat.le_of_ble_eq_true h1.1.2,?_⟩;have h2:=h1.2;split at h2
 ·rename_i r hr;simp at h2;exact⟨r,hr,Go.Sh.intB_eq h2.1,Go.Sh.intB_eq h2.2⟩
 ·cases h2
structure ChIn(h:Chg):Prop where
 k:0≤h.k∧h.k≤6
 tk:0≤h.t.k∧h.t.k≤5
 ot:0≤h.t.o∧h.t.o≤4
 f:h.f.length≤20
 n:h.n.length≤20
 m:h.m.length≤20
 x:h.x=[]∨h.x∈exL
 o:h.o=[]∨h.o∈exL
theorem zqa(t:Ty):(0≤(tyH t).k∧(tyH t).k≤5)∧(0≤(tyH t).o∧(tyH t).o≤4):=by
 have h2:=zF t.k 5 (by omega);have h3:=zF t.o 4 (by omega);unfold tyH
 grind
theorem zlC{c:Cls}(hc:GoodC c)(i:Nat):(c.fs.getD i z4e).n.length≤20:=by
 rw[List.getD_eq_getElem?_getD];cases h:c.fs[i]? with
 |none=>exact Nat.zero_le _
 |some f=>
  have:=(hc.fs f (gM h)).2
  grind
theorem zdM(x:RawH){c:Cls}(hc:GoodC c)(hn:∀f∈c.fs,f.n∈nmL):ChIn (z5Y x c):=by
 have hk:=zF x.k 6 (by omega);have hf:(if c.fs=[] then [] else(c.fs.getD (pick x.f c.fs.length).toNat z4e).n).length≤20:=by
  grind [zlC]
 have ht:=zqa x.t;have hx:=zcp hn x.x (tyH x.t);have ho:=zcp hn x.o (tyH x.t);have n1:=zgy x.n;have n2:=zgy x.m;unfold z5Y
 dsimp only
 generalize(if c.fs=[] then [] else(c.fs.getD (pick x.f c.fs.length).toNat z4e).n)=f at*
 repeat' split
 all_goals refine⟨by dsimp only;omega,?_,?_,?_,?_,?_,?_,?_⟩
 all_goals first|exact hf|exact n1|exact n2|exact hx|exact ho|exact ht.1|exact ht.2|exact .inl rfl|(show(0:Int)≤0∧(0:Int)≤_;omega)|exact Nat.zero_le _
end Go.Mor
end

section
namespace Go.Proofs.YtcpaleaajdilgaaGreatDoor
open Go Go.RowKit Go.Mor Go.Sh Go.Sh.Cd1 Go.Sh.Cd7
theorem z3R(g:Sh.Glob)(c n:Int)(hc:I64 c)(hn:0<n):zC g 25 [I c,I n] [] (I (Go.Mor.pick c n)) []:=by
 obtain⟨h0,h1⟩:=hc;refine za tf_117 ?_;have hne:¬n=0:=by omega
 unfold Go.Mor.pick;by_cases hneg:c<0
 ·rw[if_pos hneg];have w1:IntKind.i64.wrap (c+1)=c+1:=wrap64 (by omega) (by omega);have w2:IntKind.i64.wrap (0-(c+1))= -(c+1):=wG;have hm:(-(c+1)).tmod n=(-(c+1))%n:=Int.tmod_eq_emod_of_nonneg (by omega);simp only[vW,seval,hneg,hne,w1,w2,hm]
 ·rw[if_neg hneg];have hm:c.tmod n=c%n:=Int.tmod_eq_emod_of_nonneg (by omega);simp only[vW,seval,hneg,hne,hm]
def z7j(r:Option (zB)):TV:=match r with|some s=> .tuple [S (str s),B true]|none=> .tuple [S (str []),B false]
theorem z8a(g:Sh.Glob)(c:Cls)(n:Int)(t:Ty)(hn:I64 n)(hl:c.fs.length≤1000):zC g 111 [clT c,I n,tyT t] [] (z7j (z3y c n t)) []:=by
 have PN:=z3R g n 100 hn (by decide);have hb:=zF n 100 (by decide);obtain⟨j,hj⟩:=Int.eq_ofNat_of_zero_le hb.1;rw[hj]at PN;have e0:=bS [];obtain⟨R,hR⟩:∃R,z3y c n t=R:=⟨_,rfl⟩
 rw[hR];unfold z3y at hR;rw[hj,Int.toNat_natCast]at hR;obtain⟨tk,ot⟩:=t;refine za tf_116 ?_;unfold clT tyT;simp only[vW,seval,e0];refine zw (σ:={i:Nat // i≤c.fs.length∧z7i c.fs j ⟨tk,ot⟩ (c.fs.length-i) i=R}) (fun i=>⟨[(1,I n),(3,.ptr 3 0),(5,.ptr 5 0),(8,I (i.1:Int))],[(3,[S (str c.n),.pv (.sl 4 (flR c.fs))]),(5,[I tk,I ot])],[],[]⟩) (fun i=>c.fs.length-i.1) ⟨0,Nat.zero_le _,hR⟩ ?_ ?_
 ·exact lwA
 rintro⟨i,hi,hT⟩;by_cases hlt:i<c.fs.length
 ·have d1:(i:Int)<(c.fs.length:Int):=by omega
  have w0:IntKind.i64.wrap ((j:Int)+(i:Int))=((j+i:Nat):Int):=wG;have w1:=wS i;have m0:Int.tmod ((j+i:Nat):Int) (c.fs.length:Int)=(((j+i)%c.fs.length:Nat):Int):=(Int.ofNat_tmod _ _).symm;have z0:¬(c.fs.length:Int)=0:=by omega
  have hq:=Nat.mod_lt (j+i) (show 0<c.fs.length by omega);obtain⟨f,ef⟩:∃f,c.fs[(j+i)%c.fs.length]?=some f:=⟨_,gE hq⟩
  obtain⟨k,hk⟩:∃k,c.fs.length-i=k+1:=⟨c.fs.length-i-1,by omega⟩
  rw[hk,z7i,List.getD_eq_getElem?_getD,ef]at hT;simp only[Option.getD_some]at hT;generalize(j+i)%c.fs.length=q at*;cases he:z0h f.t ⟨tk,ot⟩
  ·rw[he]at hT;simp only[Bool.false_eq_true,if_false]at hT;have he':z0h ⟨f.t.k,f.t.o⟩ ⟨tk,ot⟩=false:=he;simp only[vW,seval,d1,clV];refine z7 PN ?_;simp only[vW,seval,clV,w0,m0,z0,ef,z4O,he',w1];refine zc ⟨i+1,hlt,by rw[show c.fs.length-(i+1)=k by omega];exact hT⟩ (by show c.fs.length-(i+1)<c.fs.length-i;omega) ?_;exact lwA
  ·rw[he]at hT;simp only[if_true]at hT;subst hT;have he':z0h ⟨f.t.k,f.t.o⟩ ⟨tk,ot⟩=true:=he;unfold z7j B;simp only[vW,seval,d1,clV];refine z7 PN ?_;simp only[vW,seval,clV,w0,m0,z0,ef,z4O,he',w1]
 ·have d1:¬(i:Int)<(c.fs.length:Int):=by omega
  rw[show c.fs.length-i=0 by omega,z7i]at hT;subst hT;unfold z7j B;simp only[vW,seval,d1,clV,e0]
theorem zlV{a:zB}(h:a∈numL):a.length≤8:=by
 have:numL.all (fun a=>decide (a.length≤8))=true:=by decide
 simpa using List.all_eq_true.1 this a h
theorem zmw{a:zB}(h:a∈txtL):a.length≤8:=by
 have:txtL.all (fun a=>decide (a.length≤8))=true:=by decide
 simpa using List.all_eq_true.1 this a h
theorem ze0(g:Sh.Glob)(n:Int)(t:Ty)(c:Cls)(hn:I64 n)(hl:c.fs.length≤1000)(hc:∀f∈c.fs,f.n∈nmL):zC g 58 [I n,tyT t,clT c] [] (S (str (z4P n t c))) []:=by
 have F1:=z8a g c n ⟨1,0⟩ hn hl;have hn2:I64 (n.tdiv 2):=by
  obtain⟨h0,h1⟩:=hn;unfold I64;rcases Int.le_total 0 n with h|h
  ·rw[Int.tdiv_eq_ediv_of_nonneg h];omega
  ·have e:n= -(-n):=by omega
   rw[e,Int.neg_tdiv,Int.tdiv_eq_ediv_of_nonneg (by omega)];omega
 have F2:=z8a g c (n.tdiv 2) ⟨2,0⟩ hn2 hl;have F3:=z8a g c n t hn hl;have P8:=z3R g n 8 hn (by decide);have P3:=z3R g n 3 hn (by decide);have b8:=zF n 8 (by decide);obtain⟨j,hj⟩:=Int.eq_ofNat_of_zero_le b8.1;have la:=zlV (zap hc n);have lb:=zmw (zaF hc n);have w2:IntKind.i64.wrap (n.tdiv 2)=n.tdiv 2:=wrap64 hn2.1 hn2.2;obtain⟨E,hE⟩:∃E,z4P n t c=E:=⟨_,rfl⟩
 rw[hE];unfold z4P at hE;rw[hj,Int.toNat_natCast]at hE;rw[hj]at P8;have hj8:j=0∨j=1∨j=2∨j=3∨j=4∨j=5∨j=6∨j=7:=by omega
 have q0:=bS [32,42,32,50,32,45,32,49];have q1:=bS [108,101,110,40];have q2:=bS [41];have q3:=bS [105,102,40];have q4:=bS [32,62,32,50,44,32];have q5:=bS [44,32,48,32,45,32];have q6:=bS [102,105,110,100,40,34,98,34,44,32];have q7:=bS [32,47,32];have q8:=bS [32,38,32,34,45,34,32,38,32];have q9:=bS [116,101,120,116,40];have q10:=bS [108,101,102,116,40];have q11:=bS [44,32,50,41];have q12:=bS [102,114,111,109,40];have q13:=bS [44,32,51,41];have q14:=bS [32,61,32,49,44,32];have q15:=bS [44,32,34,110,111,34,41];have q16:=bS [51];have q17:=bS [34,120,34];have q18:=bS [55];have q19:=bS [34,97,32,98,34];have q20:=bS [];obtain⟨tk,ot⟩:=t
 dsimp only at hE
 have hA:z8v c n=(z3y c n ⟨1,0⟩).getD [55]:=rfl;have hB:z8Y c n=(z3y c (n.tdiv 2) ⟨2,0⟩).getD [34,97,32,98,34]:=rfl;generalize z8v c n=a at*;generalize z8Y c n=b at*;refine z5C zf tf_114 rfl ?_;unfold clT tyT at*
 dsimp only at*
 generalize z3y c n ⟨1,0⟩=x at*;generalize z3y c (n.tdiv 2) ⟨2,0⟩=y at*;generalize z3y c n ⟨tk,ot⟩=z at*;have main:∀(sx sy:zB) (bx by_:Bool),z7j x=.tuple [S (str sx),.pv (.v (.bool bx))]→z7j y=.tuple [S (str sy),.pv (.v (.bool by_))]→a=(if bx then sx else [55])→b=(if by_ then sy else [34,97,32,98,34])→swp Tryz.prog g F_114.code (Post0 F_114.res (S (str E))) (startE [I n,.agg [I tk,I ot],.agg [S (str c.n),.pv (.sl 4 (flR c.fs))]] []):=by
  intro sx sy bx by_ hx hy ha hb;rw[hx]at F1;rw[hy]at F2;have zy:True:=trivial;cases bx<;>cases by_
  all_goals(
   simp only[if_true,Bool.false_eq_true,if_false]at ha hb;subst ha;subst hb;simp only[vW,seval];refine z7 F1 ?_;simp only[vW,seval,w2];refine z7 F2 ?_;by_cases t1:tk=1
   ·rw[if_pos t1]at hE;simp only[vW,seval,t1,q0,q1,q2,q3,q4,q5,q6,q7,q8,q9,q10,q11,q12,q13,q14,q15,q16,q17,q18,q19,q20];repeat(with_reducible refine And.intro (by omega) ?_)
    refine z7 P8 ?_;rcases hj8 with rfl|rfl|rfl|rfl|rfl|rfl|rfl|rfl
    all_goals(
     simp only[vW,seval];subst hE;first|rfl|simp[zev])
   rw[if_neg t1]at hE;by_cases t2:tk=2
   ·rw[if_pos t2]at hE;simp only[vW,seval,t1,t2,q0,q1,q2,q3,q4,q5,q6,q7,q8,q9,q10,q11,q12,q13,q14,q15,q16,q17,q18,q19,q20];repeat(with_reducible refine And.intro (by omega) ?_)
    refine z7 P8 ?_;rcases hj8 with rfl|rfl|rfl|rfl|rfl|rfl|rfl|rfl
    all_goals(
     simp only[vW,seval];subst hE;first|rfl|simp[zfd])
   rw[if_neg t2]at hE;simp only[vW,seval,t1,t2,q0,q1,q2,q3,q4,q5,q6,q7,q8,q9,q10,q11,q12,q13,q14,q15,q16,q17,q18,q19,q20];cases z with
   |none=>
    unfold z7j B at F3
    dsimp only at F3 hE
    subst hE;refine z7 F3 ?_;simp only[vW,seval,q0,q1,q2,q3,q4,q5,q6,q7,q8,q9,q10,q11,q12,q13,q14,q15,q16,q17,q18,q19,q20]
   |some s=>
    unfold z7j B at F3
    dsimp only at F3 hE
    refine z8 F3 ?_;refine z7 P3 ?_;by_cases p0:0<Go.Mor.pick n 3
    ·rw[if_pos p0]at hE;subst hE;simp only[vW,seval,p0]
    ·rw[if_neg p0]at hE;subst hE;simp only[vW,seval,p0,q0,q1,q2,q3,q4,q5,q6,q7,q8,q9,q10,q11,q12,q13,q14,q15,q16,q17,q18,q19,q20])
 cases x with
 |none=>cases y with
  |none=>exact main [] [] false false rfl rfl hA hB
  |some s2=>exact main [] s2 false true rfl rfl hA hB
 |some s1=>cases y with
  |none=>exact main s1 [] true false rfl rfl hA hB
  |some s2=>exact main s1 s2 true true rfl rfl hA hB
end Go.Proofs.YtcpaleaajdilgaaGreatDoor
end
