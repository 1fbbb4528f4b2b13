/- Merged texts: OwnV S32 Zm12 Ya2 Ya3 Ya4 Zu6 Zu7 Zu8. No statement of the program is proved here. -/
import Derived.Test.YtbkgnekfigknhaaGreatDoorR37
import Derived.Deep.RegionLaw
set_option linter.unusedSimpArgs false
set_option linter.unusedVariables false
set_option maxRecDepth 100000
set_option maxHeartbeats 8000000
section
namespace Go.Proofs.YtbkgnekfigknhaaGreatDoor
open Go Go.RowKit Go.Mor
structure VC where
 v:V
 p:Option Addr
 cap:Nat
def VC.c(y:VC):Value:=.slice y.p y.v.l.length y.cap
def z7d(y:VC):List Value:=[.int .i64 y.v.k,.int .i64 y.v.n,.string (str y.v.s),.slice y.p y.v.l.length y.cap]
theorem zpO:(Tryz.prog.info? 62).map (fun i=>(i.zero,i.size,i.bytes))=some (some (.agg #[.int .i64 0,.int .i64 0,.string ⟨#[]⟩,.slice none 0 0]),4,56):=by kernel_rfl
def VR:RowT VC where
 e:=62
 t:=40
 size:=4
 bytes:=56
 zero:=.agg #[.int .i64 0,.int .i64 0,.string ⟨#[]⟩,.slice none 0 0]
 cells:=z7d
 len:=fun _=>rfl
 one:=by
  intro x u hu;simp[z7d]at hu;rcases hu with rfl|rfl|rfl|rfl<;>rfl
 pos:=by decide
 few:=by decide
 und:=Tryz.underlying40
 info:=zpO
 zlen:=rfl
end Go.Proofs.YtbkgnekfigknhaaGreatDoor
end

section
namespace Go.Sh
open Go Go.RowKit
theorem zmt{P:Program}{g:Glob}{f:Nat}{xs:List TV}{e W:Nat}{es:List (List PV)}(hW:0<W)(hne:es≠[])(hb:z3I P f)
  (h:∀(w:World) (E:Env) (us:List Value),g.G w→(∀b o,E.K b o→b<w.heap.size)→xs.length=us.length→(∀(j:Nat) x v,xs[j]?=some x→us[j]?=some v→RelT w E (zx []) x v)→
   Calls P f us.toArray w fun o w'=>∃(v':Value) (K':Nat→Nat→Prop) (news:List Value) (F:Nat→Nat→Value),o=.returned v'∧w'.ownsRow w.heap.size e W v' es.length news∧Below w.heap.size w w'∧(∀b o,E.K b o→K' b o)∧
    (∀b o,K' b o→(E.K b o∨w.heap.size≤b)∧b<w'.heap.size∧v'.ownBlock≠some b)∧News w' K' W es news F):
  SCalls P g f xs [] (.bs 1000 0 es.length es.length) [.box (es.flatten.map TV.pv)]:=by
 refine⟨hb,fun w E us hG hm hX hl hr=>(h w E us hG hm.lt hl hr).mono ?_⟩;rintro o w' ⟨v',K',news,F,rfl,hown,hbel,hK1,hK2,hn⟩;have hk0:∀b o u,E.K b o→w.cell? ⟨b,o,none⟩=some u→w'.cell? ⟨b,o,none⟩=some u:=fun b o u h1 h2=>(hbel.cell (z1j h2)).trans h2;have hpos:0<es.length:=List.length_pos_iff.2 hne;obtain⟨hlen,hown⟩:=hown;rcases hown with⟨rfl,h0⟩|⟨k,cap,cur,rfl,hk,hcur,hle,hmax,hsz,htake⟩
 ·omega
 have hrow:w'.ownsRow w.heap.size e W (.slice (some ⟨k,0,none⟩) es.length cap) es.length news:=⟨hlen,.inr ⟨k,cap,cur,rfl,hk,hcur,hle,hmax,hsz,htake⟩⟩
 have hcell:∀(j:Nat) u,news[j]?=some u→w'.cell? ⟨k,j,none⟩=some u:=fun j u hj=>by
  grind [List.getElem?_eq_some_iff,World.ownsRow.cellAt]
 have hno:∀d,¬(start w E [] 0).old d:=z17;have hkn:∀o,¬K' k o:=fun o ho=>(hK2 k o ho).2.2 rfl;refine⟨_,{ E with K:=K',β:=fun j=>if j=1000 then k else E.β j },rfl,⟨fun d cs hd=> ?_,fun d e' W' n hd=>(by grind [z4Z]),fun d d' cs cs' h1 h2 _=> ?_,fun d d' cs q k cap _ h2=>(by grind [z4Z]),fun d d' q q' k cap cap' h1=>(by grind [z4Z]),fun b o ho=>(hK2 b o ho).2.1,z8F hbel,fun b o u h1 h2=>⟨hK1 b o h1,hk0 b o u h1 h2⟩,fun b o h1=> ?_,⟨fun d hd=>absurd hd (hno d),fun d hd=>absurd hd (hno d),fun d e W n hd=>absurd hd (hno d)⟩⟩,?_,⟨fun d h1 h2=>absurd h2 (by grind),fun d h1 h2=>absurd h2 (by grind),fun d e W n hd=>by simp[zx]at hd⟩⟩
 ·obtain⟨rfl,rfl⟩:=z6a hd;refine⟨⟨(gA hcur).1,⟨_,_,_,hcur⟩,fun o=> ?_,fun j c hj=> ?_,hkn⟩,.inl hk⟩
  ·grind [World.ownsRow.frozenAt]
  ·rw[List.getElem?_map]at hj;obtain⟨p,hp,rfl⟩:=gO hj;obtain⟨i,q,cs,h1,h2,rfl⟩:=z5Y (fun cs h=>hn.len cs h) hp;obtain⟨n1,n2,n3⟩:=hn.at_ i q cs p h1 h2;exact⟨_,hcell _ _ n1,n2,.pv n3⟩
 ·grind [z6a]
 ·rcases(hK2 b o h1).1 with h1|h1
  ·exact .inl h1
  ·exact .inr (.inl h1)
 ·show RelT w' _ _ (.bs 1000 0 es.length es.length) (.slice (some ⟨k,0,none⟩) es.length cap);exact .bs (E:={ E with K:=K',β:=fun j=>if j=1000 then k else E.β j }) 1000 0 es.length es.length cap (.inl ⟨Nat.le_refl _,hpos⟩) hle hmax
end Go.Sh
end

section
namespace Go.Proofs.YtbkgnekfigknhaaGreatDoor
open Go Go.RowKit Go.Mor Go.Sh
def glN:Sh.Glob where
 G:=fun _=>True
 n:=0
 st:=fun _ _ _ _=>trivial
 le:=fun _ _=>Nat.zero_le _
theorem zr8(l:List V)(hl:l.length≤1000)(hf:∀v∈l,VFew v)(w:World)(K:Nat→Nat→Prop)(hK:∀b o,K b o→b<w.heap.size){c:Value}(hc:RelV w K (.sl 4 (V.rows l)) c):
  Calls Tryz.prog 191 #[c] w fun e w'=>∃v K',e=.returned v∧RelV w' K' (.sl 4 (V.rows l)) v∧Below w.heap.size w w'∧(∀b o u,K b o→w.cell? ⟨b,o,none⟩=some u→K' b o)∧∀b o,K' b o→(K b o∨w.heap.size≤b)∧b<w'.heap.size:=by
 have H:=z2N glN l hl hf;let E:Env:={ z1e w with K:=K }
 have hX:∀d k,¬z1W E [] d k:=by
  rintro d k (⟨cs,h1,_⟩|⟨q,cap,h1,_⟩)
  ·rw[z3q]at h1;cases h1
  ·rw[z50]at h1;cases h1
 refine(H.2 w E [c] trivial ?_ (fun d k hd=>absurd hd (hX d k)) rfl ?_).mono ?_
 ·refine⟨fun d cs hd=> ?_,fun d e W n hd=> ?_,fun d d' cs cs' hd=> ?_,fun d d' cs q k cap hd=> ?_,fun d d' q q' k cap cap' hd=> ?_,fun k o hk=>hK k o hk,⟨rfl,rfl,rfl,Nat.le_refl _,fun _ _ _=>rfl⟩,fun k o u hk hu=>⟨hk,hu⟩,fun k o hk=> .inl hk,?_⟩
  ·rw[z3q]at hd;cases hd
  ·rw[z50]at hd;cases hd
  ·rw[z3q]at hd;cases hd
  ·rw[z3q]at hd;cases hd
  ·rw[z50]at hd;cases hd
  ·exact⟨fun d hd=>absurd hd (z17 d),fun d hd=>absurd hd (z17 d),fun d e W n hd=>absurd hd (z17 d)⟩
 ·intro j x v hx hv;cases j with
  |zero=>simp at hx hv;subst hx;subst hv;exact .pv hc
  |succ j=>simp at hx
 ·rintro e w' ⟨v,E',rfl,hM,hr,_⟩;refine⟨v,E'.K,rfl,?_,⟨hM.low.os,hM.low.tape,hM.low.output,hM.low.size,fun k hk=>hM.low.block k hk (fun d hd=>hX d k hd)⟩,fun b o u h1 h2=>(hM.keep b o u h1 h2).1,fun b o h=>⟨?_,hM.lt b o h⟩⟩
  ·cases hr with
   |own _ _ _ _ h _=>exact h
  ·rcases hM.knew b o h with h|h|⟨d,h⟩
   ·exact .inl h
   ·exact .inr h
   ·exact absurd h (hX d b)
theorem ziq{w:World}{b t:Nat}{cs:Array Value}(h:w.heap[b]?=some (.cells cs t (0,0)))(i:Nat):w.cell? ⟨b,i,none⟩=cs[i]?:=by simp[World.cell?,h]
theorem zt3{w:World}{b t:Nat}{cs:Array Value}(h:w.heap[b]?=some (.cells cs t (0,0)))(i:Nat):w.frozen? ⟨b,i,none⟩=false:=by simp[World.frozen?,h]
theorem zqN{p:Prop}(h:id p):p:=h
theorem zlA{w:World}{K:Nat→Nat→Prop}{b off:Nat}{f:Nat→Nat→Value}{l:List V}(hcs:∀(i j:Nat) cs c,(V.rows l)[i]?=some cs→cs[j]?=some c→(K b (off+i*4+j)∧w.cell? ⟨b,off+i*4+j,none⟩=some (f i j)∧one (f i j))∧RelV w K c (f i j)){k:Nat}{x:V}(hx:l[k]?=some x):
  ∃q n cap,w.cell? ⟨b,off+k*4,none⟩=some (.int .i64 x.k)∧w.cell? ⟨b,off+k*4+1,none⟩=some (.int .i64 x.n)∧w.cell? ⟨b,off+k*4+2,none⟩=some (.string (str x.s))∧w.cell? ⟨b,off+k*4+3,none⟩=some (.slice q n cap)∧RelV w K (.sl 4 (V.rows x.l)) (.slice q n cap):=by
 have hr:(V.rows l)[k]?=some (V.row x):=by rw[z0j,List.getElem?_map,hx];rfl
 have e:V.row x=[.v (.int .i64 x.k),.v (.int .i64 x.n),.v (.string (str x.s)),.sl 4 (V.rows x.l)]:=z1b x;obtain⟨⟨_,h0,_⟩,r0⟩:=hcs k 0 _ _ hr (by rw[e];rfl);obtain⟨⟨_,h1,_⟩,r1⟩:=hcs k 1 _ _ hr (by rw[e];rfl);obtain⟨⟨_,h2,_⟩,r2⟩:=hcs k 2 _ _ hr (by rw[e];rfl);obtain⟨⟨_,h3,_⟩,r3⟩:=hcs k 3 _ _ hr (by rw[e];rfl);generalize f k 0=y0 at*;generalize f k 1=y1 at*;generalize f k 2=y2 at*;generalize f k 3=y3 at*;cases r0;cases r1;cases r2;obtain⟨b',off',cap',p',f',rfl,_⟩:=z0L r3;exact⟨_,_,_,h0,h1,h2,h3,r3⟩
theorem zr9(l:List V)(hl:l.length≤1000)(hne:l≠[])(hf:∀v∈l,VFew v)(w:World)(K:Nat→Nat→Prop)(hK:∀b o,K b o→b<w.heap.size){c:Value}(hc:RelV w K (.sl 4 (V.rows l)) c):
  Calls Tryz.prog 191 #[c] w fun o w'=>∃(v':Value) (K':Nat→Nat→Prop) (news:List Value) (F:Nat→Nat→Value),o=.returned v'∧w'.ownsRow w.heap.size 62 4 v' (V.rows l).length news∧Below w.heap.size w w'∧(∀b o,K b o→K' b o)∧
   (∀b o,K' b o→(K b o∨w.heap.size≤b)∧b<w'.heap.size∧v'.ownBlock≠some b)∧News w' K' 4 (V.rows l) news F:=by
 obtain⟨b,off,cap,p,f,rfl,hp,hcap,hmax,hW,hcs⟩:=z0L hc;obtain rfl:=hp (by cases l with|nil=>exact absurd rfl hne|cons x l=>simp[z0j]);unfold maxLen at hmax;have hlen:(V.rows l).length=l.length:=by simp[z0j]
 rw[hlen]at hcap ⊢;have HC:=Lib.hid (fun k x (hx:l[k]?=some x)=>zlA hcs hx);have HK:=Lib.hid hK;have HF:=Lib.hid hf;clear hc hcs hp hW hK hf
 go_enter Tryz.func191,Tryz.ntmps191
 go_wp2_with fail
 go_loopw [3,8] (fun m i wr=>∃(k:Nat) (L:List VC) (p:Option Addr) (cap:Nat) (Kr:Nat→Nat→Prop),k≤l.length∧i=.int .i64 k∧m=.slice p L.length cap∧Hid (OwnR VR w.heap.size wr (.slice p L.length cap) L)∧Hid (L.map VC.v=l.take k)∧Hid (∀y∈L,RelV wr Kr (.sl 4 (V.rows y.v.l)) y.c)∧Below w.heap.size w wr∧Hid (∀b o u,K b o→w.cell? ⟨b,o,none⟩=some u→Kr b o)∧Hid (∀b o,Kr b o→(K b o∨w.heap.size≤b)∧b<wr.heap.size∧(Value.slice p L.length cap).ownBlock≠some b)) (fun _ i _=>l.length-(intOf i).toNat)
 case atStart=>exact⟨0,[],none,0,K,Nat.zero_le _,rfl,rfl,OwnR.nil _ _,rfl,(fun y hy=>by cases hy),Below.refl _ _,fun b o u h _=>h,fun b o h=>⟨.inl h,HK.out b o h,by simp[Value.ownBlock]⟩⟩
 case round=>
  obtain⟨k,L,p1,cap1,Kr,hk,rfl,rfl,hO,HL,HY,hb,HKr,HKb⟩:=hrel;have hLk:L.length=k:=by have:=congrArg List.length HL.out;simpa [Nat.min_eq_left hk]using this
  subst hLk;by_cases hlt:L.length<l.length
  ·obtain⟨x,hx⟩:∃x,l[L.length]?=some x:=⟨_,gE hlt⟩
   obtain⟨q,n,cp,h0,h1,h2,h3,hr⟩:=HC.out L.length x hx;have e0:=(hb.cell (z1d h0)).trans h0;have e1:=(hb.cell (z1d h1)).trans h1;have e2:=(hb.cell (z1d h2)).trans h2;have e3:=(hb.cell (z1d h3)).trans h3;have HX:=Lib.hid hx;have HN:Hid (∀W1:World,Below wr.heap.size wr W1→Calls Tryz.prog 191 #[.slice q n cp] W1 fun e w'=>∃v K',e=.returned v∧RelV w' K' (.sl 4 (V.rows x.l)) v∧Below W1.heap.size W1 w'∧(∀b o u,Kr b o→W1.cell? ⟨b,o,none⟩=some u→K' b o)∧∀b o,K' b o→(Kr b o∨W1.heap.size≤b)∧b<w'.heap.size):=fun W1 hB=>by
    have hm:=gM hx;have h4:=HF.out x hm;refine zr8 x.l h4.len (fun y hy=>h4.sub hy) W1 Kr (fun b o h=>Nat.lt_of_lt_of_le (HKb.out b o h).2.1 hB.size) (hr.mono fun b o u a1 a2=>⟨HKr.out b o u a1 a2,?_⟩);exact(hB.cell (z1d ((hb.cell (z1d a2)).trans a2))).trans ((hb.cell (z1d a2)).trans a2)
   clear hx h0 h1 h2 h3 hr
   go_wp2_with fail
   have hal:Below wr.heap.size wr (wr.alloc (.cells #[.int .i64 x.k,.int .i64 x.n,.string (str x.s),.slice q n cp] 62)):=(Below.refl _ _).alloc (Nat.le_refl _) _;refine(HN.out _ hal).mono ?_;rintro e w2 ⟨v2,K2,rfl,hr2,hb2,hk2,hk2'⟩;have hlx:(V.rows x.l).length=x.l.length:=by simp[z0j]
   obtain⟨b2,off2,cp2,p2,f2,rfl, -⟩:=z0L hr2;rw[hlx]at hr2 ⊢;have N1:=(hb2.block _ (z4V (World.alloc_heap_new wr _))).trans (World.alloc_heap_new wr (.cells #[.int .i64 x.k,.int .i64 x.n,.string (str x.s),.slice q n cp] 62));have hbr:Below wr.heap.size wr w2:=hal.trans (hb2.mono hal.size);have HR2:=Lib.hid hr2;have HK2:=Lib.hid hk2;have HK3:=Lib.hid hk2';have HB2:=Lib.hid hb2;have HAL:=Lib.hid hal;clear hr2 hk2 hk2' hb2 hal HN;obtain⟨N,hN⟩:∃N,wr.heap.size=N:=⟨_,rfl⟩
   rw[hN]at N1 ⊢;have c0:=ziq N1 0;have c1:=ziq N1 1;have c2:=ziq N1 2;have c3:=ziq N1 3;have cf3:=zt3 N1 3;simp only[List.getElem?_toArray,List.getElem?_cons_zero,List.getElem?_cons_succ]at c0 c1 c2 c3;obtain⟨Y,hY⟩:∃Y:VC,(⟨x,p2,cp2⟩:VC)=Y:=⟨_,rfl⟩
   have hYv:Y.v=x:=by rw[←hY]
   have hYc:VR.cells Y=[.int .i64 x.k,.int .i64 x.n,.string (str x.s),.slice p2 x.l.length cp2]:=by rw[←hY];rfl
   have hYs:Y.c=.slice p2 x.l.length cp2:=by rw[←hY];rfl
   obtain⟨W4,hW4⟩:∃W,((w2.setCell ⟨N,3,none⟩ (.slice p2 x.l.length cp2)).alloc (.cells #[.int .i64 x.k,.int .i64 x.n,.string (str x.s),.slice p2 x.l.length cp2] 62))=W:=⟨_,rfl⟩
   have hsz2:N<w2.heap.size:=z4V N1;have hst:∀b,b≠N→b<w2.heap.size→W4.heap[b]?=w2.heap[b]?:=fun b hn hb=>by
    rw[←hW4,Below.heap_alloc _ _ _ (by simpa [World.setCell]using hb)];exact heap_setCell_other _ _ _ _ hn
   have hsz4:W4.heap.size=w2.heap.size+1:=by rw[←hW4];simp[World.alloc,World.setCell]
   have hB4:Below wr.heap.size wr W4:=by
    rw[←hW4];exact(hbr.setCell (by show wr.heap.size≤N;omega) _).alloc (by have:=hbr.size;simpa [World.setCell]using this) _
   have hO4:OwnR VR w.heap.size W4 (.slice p1 L.length cap1) L:=hO.out.ext hB4;have hM4:IsR VR (fun _=>True) W4 [Y] (.slice (some ⟨w2.heap.size,0,none⟩) 1 1):=by
    have:=World.alloc_heap_new (w2.setCell ⟨N,3,none⟩ (.slice p2 x.l.length cp2)) (.cells #[.int .i64 x.k,.int .i64 x.n,.string (str x.s),.slice p2 x.l.length cp2] 62);rw[hW4,show(w2.setCell ⟨N,3,none⟩ (.slice p2 x.l.length cp2)).heap.size=w2.heap.size by simp[World.setCell]]at this;exact zpP Y this hYc.symm
   have hlen4:L.length+[Y].length≤1000000:=by simp;omega
   have hb4:w.heap.size≤W4.heap.size:=Nat.le_trans hb.size hB4.size;have hpos4:0<[Y].length:=by simp
   have HSZ:=Lib.hid hsz4;have HST:=Lib.hid hst;clear N1 hsz4 hst
   go_wp2_with (at_builtin;apply zqN)
   unfold id;try rw[hW4]
   refine zgv (R:=VR) rfl _ _ rfl hO4 hM4 hpos4 rfl rfl hlen4 hb4 ?_;intro L3 g3 cap3 w4 hL3 hO3 hg3 hf3
   go_wp2_with fail
   have hown:∀b,(Value.slice p1 L.length cap1).ownBlock=some b→b<N:=fun b hb=>by rw[←hN];exact hO.out.lt b hb
   have hW1:(wr.alloc (.cells #[.int .i64 x.k,.int .i64 x.n,.string (str x.s),.slice q n cp] 62)).heap.size=N+1:=by rw[←hN];exact Array.size_push ..
   have k2:∀b o,K2 b o→b≠N∧b<w2.heap.size∧(Value.slice p1 L.length cap1).ownBlock≠some b∧(K b o∨w.heap.size≤b):=fun b o h=>by
    obtain⟨h1,h2⟩:=HK3.out b o h;rcases h1 with h1|h1
    ·obtain⟨a1,a2,a3⟩:=HKb.out b o h1;exact⟨by omega,h2,a3,a1⟩
    ·rw[hW1]at h1;have:=hb.size;exact⟨by omega,h2,fun e=>by have:=hown b e;omega,.inr (by omega)⟩
   have s2:∀b o u,K2 b o→w2.cell? ⟨b,o,none⟩=some u→w4.cell? ⟨b,o,none⟩=some u:=fun b o u h hu=>by
    obtain⟨a1,a2,a3,_⟩:=k2 b o h;have e1:=hg3.block b (by rw[HSZ.out];omega) (fun e=>a3 e.symm);rw[HST.out b a1 a2]at e1;rw[World.cell?_of_block (w:=w2) e1];exact hu
   have s1:∀b o u,Kr b o→wr.cell? ⟨b,o,none⟩=some u→K2 b o∧w4.cell? ⟨b,o,none⟩=some u:=fun b o u h hu=>by
    have e1:=(HAL.out.cell (z1d hu)).trans hu;have h2:=HK2.out b o u h e1;exact⟨h2,s2 b o u h2 ((HB2.out.cell (z1d e1)).trans e1)⟩
   have hL:=hL3.out;refine⟨⟨L.length+1,L3,some ⟨g3,0,none⟩,cap3,K2,by omega,by simp,rfl,hO3,?_,?_,?_,?_,?_⟩,by simp[intOf];omega⟩
   ·show _=_;rw[hL,List.map_append,HL.out,List.take_add_one,HX.out,List.map_singleton,hYv];rfl
   ·intro y hy;rw[hL]at hy;rcases List.mem_append.1 hy with hy|hy
    ·exact(HY.out y hy).mono s1
    ·obtain rfl:=List.mem_singleton.1 hy;rw[hYs,hYv];exact HR2.out.mono fun b o u h hu=>⟨h,s2 b o u h hu⟩
   ·exact(hb.trans (hB4.mono hb.size)).grown hg3 hb4 (fun k h=>hO.out.below k h)
   ·intro b o u h hu;exact(s1 b o u (HKr.out b o u h hu) ((hb.cell (z1d hu)).trans hu)).1
   ·intro b o h;obtain⟨_,a2,a3,a4⟩:=k2 b o h;refine⟨a4,?_,fun e=> ?_⟩
    ·have:=hg3.size;rw[HSZ.out]at this;omega
    ·have e:g3=b:=by simpa [Value.ownBlock]using e
     rcases hf3.out with h1|h1
     ·exact a3 (by rw[h1,e])
     ·rw[HSZ.out]at h1;omega
  ·have hk2:L.length=l.length:=by omega
   clear hk
   go_wp2_with fail
   refine bodyPost_ret (v:=.slice p1 L.length cap1) (by simp[results,Tryz.results191,go_sem]) rfl ?_;have hLl:L.map VC.v=l:=by rw[HL.out,hk2,List.take_length]
   refine⟨_,fun b o=>K b o∨Kr b o,L.flatMap z7d,fun i j=>(((L[i]?).map z7d).bind (·[j]?)).getD undef,rfl,?_,hb,fun b o h=> .inl h,?_,?_⟩
   ·rw[←hk2];exact hO.out
   ·rintro b o (h|h)
    ·have h1:=HK.out b o h;exact⟨.inl h,Nat.lt_of_lt_of_le h1 hb.size,fun e=>by have:=hO.out.below b e;omega⟩
    ·exact HKb.out b o h
   ·refine⟨fun cs hc=> ?_,fun i j cs c h1 h2=> ?_⟩
    ·rw[z0j]at hc;obtain⟨x,_,rfl⟩:=List.mem_map.1 hc;rw[z1b];rfl
    ·rw[z0j,←hLl,List.map_map,List.getElem?_map]at h1;obtain⟨y,hy,rfl⟩:=gO h1;have e:(V.row∘VC.v) y=[.v (.int .i64 y.v.k),.v (.int .i64 y.v.n),.v (.string (str y.v.s)),.sl 4 (V.rows y.v.l)]:=z1b y.v;rw[e]at h2;have hj:j<4:=(gJ h2).1;have hg:=z8w (R:=VR) L i y hy j hj;have hr:=(HY.out y (gM hy)).mono (K':=fun b o=>K b o∨Kr b o) (fun b o u a1 a2=>⟨.inr a1,a2⟩);have hF:((((L[i]?).map z7d).bind (·[j]?)).getD undef)=(z7d y)[j]?.getD undef:=by rw[hy];rfl
     rw[hF];have:j=0∨j=1∨j=2∨j=3:=by omega
     rcases this with rfl|rfl|rfl|rfl
     ·cases h2;exact⟨hg,rfl,.v _⟩
     ·cases h2;exact⟨hg,rfl,.v _⟩
     ·cases h2;exact⟨hg,rfl,.v _⟩
     ·cases h2;exact⟨hg,rfl,hr⟩
theorem zkJ(g:Sh.Glob)(l:List V)(hl:l.length≤1000)(hne:l≠[])(hf:∀v∈l,VFew v):z8h g l:=by
 have hr:(V.rows l).length=l.length:=by simp[z0j]
 have:=zmt (P:=Tryz.prog) (g:=g) (f:=191) (xs:=[.pv (.sl 4 (V.rows l))]) (e:=62) (W:=4) (es:=V.rows l) (by decide) (fun e=>hne (List.eq_nil_of_length_eq_zero (by rw[←hr,e];rfl))) (z2N g l hl hf).1 (fun w E us hG hK hlen hrel=>by
  cases us with
  |nil=>simp at hlen
  |cons c us=>
   cases us with
   |cons _ _=>simp at hlen
   |nil=>
    have:=hrel 0 _ c rfl rfl;cases this with
    |pv h=>exact zr9 l hl hne hf w E.K hK h)
 rw[hr]at this;exact this
section
open Go.Sh.Cd1 Go.Sh.Cd7 Go.Sh.Cd10
def osK(l:Ln)(i fr tt:Nat)(vals:List V)(e:Int):List MO:=[.box [I (i:Int)],.box [I (fr:Int)],.box [.pv (.sl 4 (V.rows vals))],.box [I e],.box [I (tt:Int)],.box (lnC l)]
theorem zmL(m:Nat)(l:Ln)(hl:LnOk m l)(i fr tt:Nat)(hft:fr≤tt)(hto:tt≤l.hs.length)(hi:i≤tt)(vals:List V)(hw:∀v∈vals,VFew v∧VOk v)(hvl:vals.length≤1000)(hf:fr≤i→FitC (zq l i).1 vals):
  zC (glE m) 71 [clT (zq l i).1,.ptr 1000 0,.ptr 1001 0,.ptr 1002 0,.ptr 1003 0,.ptr 1004 0,.ptr 1005 0] (osK l i fr tt vals 0) (B (decide (i+1≤tt))) (osK l (i+1) fr tt (if fr≤i∧i<tt then z0K (zq l i).1 (l.hs.getD i ch0) vals else vals) 0):=by
 refine zo tf_174 ?_;have h12:=hl.len;have w1:=wS i;have hC:fr≤i→zC (glE m) 13 [clT (zq l i).1,.pv (.sl 4 (V.rows vals))] [] (.tuple [I 0,I 0]) []:=fun h=>by
  have:=z9T (z5y m (zq l i).1 vals (z2g (z2P (z0Z hl.r (show i≤l.hs.length by omega)))).1 (fun v hv=>⟨(hw v hv).2,by have:=(hw v hv).1.len;unfold maxLen;omega⟩) (by omega));rw[(hf h).chk]at this;exact this
 have hV:fr≤i→i<tt→∃h,l.hs[i]?=some h∧l.hs.getD i ch0=h∧zC (glE m) 17 [clT (zq l i).1,chT h,.pv (.sl 4 (V.rows vals))] [] (.tuple [.pv (.sl 4 (V.rows (z0K (zq l i).1 h vals))),I 0]) []:=fun d5 d6=>by
  obtain⟨h,ex⟩:∃h,l.hs[i]?=some h:=⟨_,gE (by omega)⟩
  have hg:l.hs.getD i ch0=h:=by rw[List.getD_eq_getElem?_getD,ex];rfl
  obtain⟨n1,n2,n3⟩:=zb9 hl ex;obtain⟨v1,v2,v3⟩:=zax hl.r ex (hf d5);have HA:=zdX m _ h vals n2 (hl.h h (gM ex)) (fun _ hne=>zkJ (glE m) vals hvl hne (fun v hv=>(hw v hv).1)) hw hvl;rw[v3]at HA;exact⟨h,ex,hg,HA⟩
 have e0:((0:Int)=0)=True:=eq_true rfl;unfold osK lnC B;unfold clT chT at*;by_cases h1:i=fr
 ·subst h1;have HC:=hC (Nat.le_refl _);have d2:(i:Int)≤(i:Int):=Int.le_refl _;by_cases h3:i<tt
  ·obtain⟨h,ex,hg,HA⟩:=hV (Nat.le_refl _) h3;have d3:(i:Int)<(tt:Int):=by omega
   have d4:((i+1:Nat):Int)≤(tt:Int):=by omega
   have d4':i+1≤tt:=by omega
   simp only[d4',decide_true,Nat.le_refl,h3,and_self,if_true,hg];simp only[vW,seval,d2,d3,d4,z5c,ex,chR,w1,false_imp_iff,true_and,and_true];refine z8 HC ?_;simp only[vW,seval,d2,d3,d4,z5c,ex,chR,w1,false_imp_iff,true_and,and_true];refine⟨by rw[z1h];omega,fun b hb=> ?_⟩;obtain rfl:=Option.some.inj hb;refine⟨Nat.le_refl 8,?_⟩;simp only[vW,seval];refine z8 HA ?_;simp only[vW,seval,d2,d3,d4,z5c,ex,chR,w1,false_imp_iff,true_and,and_true]
  ·have d3:¬(i:Int)<(tt:Int):=by omega
   have d4:¬((i+1:Nat):Int)≤(tt:Int):=by omega
   have d4':¬i+1≤tt:=by omega
   simp only[d4',decide_false,h3,and_false,if_false];simp only[vW,seval,d2,d3,d4,w1,false_imp_iff,true_and,and_true];refine z8 HC ?_;simp only[vW,seval,d2,d3,d4,w1,false_imp_iff,true_and,and_true]
 ·have d1:¬(i:Int)=(fr:Int):=by omega
  by_cases h2:fr<i
  ·have d2:(fr:Int)≤(i:Int):=by omega
   have d5:fr≤i:=by omega
   by_cases h3:i<tt
   ·have d3:(i:Int)<(tt:Int):=by omega
    have d4:((i+1:Nat):Int)≤(tt:Int):=by omega
    have d4':i+1≤tt:=by omega
    obtain⟨h,ex,hg,HA⟩:=hV d5 h3;simp only[d4',decide_true,d5,h3,and_self,if_true,hg];simp only[vW,seval,d1,d2,d3,d4,z5c,ex,chR,w1,false_imp_iff,true_and,and_true];refine z8 HA ?_;simp only[vW,seval,d1,d2,d3,d4,z5c,ex,chR,w1,false_imp_iff,true_and,and_true]
   ·have d3:¬(i:Int)<(tt:Int):=by omega
    have d4:¬((i+1:Nat):Int)≤(tt:Int):=by omega
    have d4':¬i+1≤tt:=by omega
    simp only[d4',decide_false,h3,and_false,if_false];simp only[vW,seval,d1,d2,d3,d4,w1,false_imp_iff,true_and,and_true]
  ·have d2:¬(fr:Int)≤(i:Int):=by omega
   have d5:¬fr≤i:=by omega
   have d4:((i+1:Nat):Int)≤(tt:Int):=by omega
   have d4':i+1≤tt:=by omega
   simp only[d4',decide_true,d5,false_and,if_false];simp only[vW,seval,d1,d2,d4,w1,false_imp_iff,true_and,and_true]
def z1U(es:List (List PV))(z:List PV)(k:Nat):List (List PV):=es.take k++List.replicate (es.length-k) z
theorem z8t{es:List (List PV)}{z:List PV}{zs:List Value}(h:z=zs.map PV.v):(List.replicate es.length (zs.map fun v=>TV.pv (.v v))).flatten=pvC (z1U es z 0).flatten:=by
 unfold z1U pvC;rw[List.map_flatten,List.take_zero,List.nil_append,List.map_replicate,Nat.sub_zero,h,List.map_map];rfl
theorem z7B{es:List (List PV)}{z:List PV}{k:Nat}(h:k≤es.length):(z1U es z k).length=es.length:=by unfold z1U;rw[List.length_append,List.length_take,List.length_replicate];omega
theorem zaE{es:List (List PV)}{z:List PV}:z1U es z es.length=es:=by unfold z1U;simp
theorem z7C{es:List (List PV)}{z:List PV}{k W:Nat}(hW:∀cs∈es,cs.length=W)(hz:z.length=W):∀cs∈z1U es z k,cs.length=W:=fun cs h=>by
 rcases List.mem_append.1 h with h|h
 ·exact hW _ (List.mem_of_mem_take h)
 ·rw[(List.mem_replicate.1 h).2];exact hz
theorem zmY{es:List (List PV)}{z r:List PV}{k:Nat}(hk:es[k]?=some r):(z1U es z k).set k r=z1U es z (k+1):=by
 have hl:=(gJ hk).1;unfold z1U;rw[List.take_add_one,hk,List.set_append,List.length_take,if_neg (by omega),show k-min k es.length=0 by omega,show es.length-k=es.length-(k+1)+1 by omega,List.replicate_succ,List.set_cons_zero,List.append_assoc];rfl
theorem zaF{es:List (List PV)}{z r:List PV}{k W:Nat}(hW:∀cs∈es,cs.length=W)(hz:z.length=W)(hk:es[k]?=some r){t:List TV}(ht:r.map TV.pv=t):List.take (k*W) (pvC (z1U es z k).flatten)++t++List.drop (k*W+W) (pvC (z1U es z k).flatten)=pvC (z1U es z (k+1)).flatten:=by
 have hl:=(gJ hk).1;rw[←zmY hk,←zcM (x:=r) (hW r (gM hk)) (z7C hW hz) (by rw[z7B (by omega)];exact hl),←ht];unfold pvC;simp[List.map_take,List.map_drop]
theorem zrm{α:Type}{l:List α}(h:l.length=4):∃a b c d,l=[a,b,c,d]:=by
 match l,h with
 |[a,b,c,d],_=>exact⟨a,b,c,d,rfl⟩
theorem zrl{α:Type}{l:List α}(h:l.length=3):∃a b c,l=[a,b,c]:=by
 match l,h with
 |[a,b,c],_=>exact⟨a,b,c,rfl⟩
theorem zmU(g:Sh.Glob)(f:Nat)(es:List (List PV))(hW:∀cs∈es,cs.length=4)(hl:es.length≤1000)(H:∀cs∈es,zC g f [.agg (pvC cs)] [] (.agg (pvC cs)) []):
  zC g 67 [.pv (.sl 4 es),.pv (.v (.func (.func f) #[] #[]))] [] (.pv (.sl 4 es)) []:=by
 by_cases h0:es=[]
 ·subst h0;refine SCalls.out ?_ (z3z 4);refine za tf_112 ?_;simp only[vW,seval]
 refine z2M zk tf_112 rfl ?_
 conv in SFunc.code _=>reduce
 have d0:¬(es.length:Int)=0:=by have:=List.length_pos_iff.2 h0;omega
 have z0:=z8t (es:=es) (zs:=[.string ⟨#[]⟩,.int .i64 0,.int .i64 0,.bool false]) rfl;simp only[List.map_cons,List.map_nil]at z0;generalize hz:[PV.v (Value.string ⟨#[]⟩),PV.v (Value.int .i64 0),PV.v (Value.int .i64 0),PV.v (Value.bool false)]=z at z0;have hzl:z.length=4:=by rw[←hz];rfl
 refine z02 zk ?_;simp only[vW,seval];refine z02 zk ?_;simp only[vW,seval,d0];refine z02 zk ?_;simp only[vW,seval,z0];refine⟨⟨by omega,by unfold maxLen;omega⟩,?_⟩;refine z02 zk ?_;simp only[vW,seval,d0];refine zp (σ:={i:Nat // i≤es.length}) (fun i=>⟨[(1,.pv (.v (.func (.func f) #[] #[]))),(5,.bs 13 0 es.length es.length),(14,.pv (.sl 4 es)),(15,I (es.length:Int)),(16,I (i.1:Int))],[(13,pvC (z1U es z i.1).flatten)],[],[]⟩) (fun i=>es.length-i.1) ⟨0,Nat.zero_le _⟩ ?_ ?_
 ·exact lwA
 rintro⟨i,hi⟩;by_cases hlt:i<es.length
 ·have d1:(i:Int)<(es.length:Int):=by omega
  obtain⟨cs,ex⟩:∃x,es[i]?=some x:=⟨_,gE hlt⟩
  have HC:=H cs (gM ex);have hp:=fun t ht=>zaF hW hzl ex (t:=t) ht;have hfl:(z1U es z i).flatten.length=es.length*4:=by rw[z2S (z7C hW hzl),z7B hi]
  obtain⟨a,b,c,d,rfl⟩:=zrm (hW cs (gM ex));have hp:=hp _ rfl;have w1:=wS i;unfold pvC at HC;simp only[List.map_cons,List.map_nil]at hp HC;simp only[vW,seval,d1,ex];(with_reducible apply zG);exact kv;exact HC;rfl;exact kv;simp only[vW,seval,d1,hp,w1];refine⟨by omega,zc ⟨i+1,by omega⟩ (by show es.length-(i+1)<es.length-i;omega) lwA⟩
 ·have d1:¬(i:Int)<(es.length:Int):=by omega
  obtain rfl:i=es.length:=by omega
  simp only[vW,seval,d1];rw[zaE];refine z42 (z69 (k:=5) (d:=13) (es:=es) (c:=es.length) rfl hW rfl) (z2K zk ?_);simp only[vW,seval]
theorem zmV(g:Sh.Glob)(f:Nat)(es:List (List PV))(hW:∀cs∈es,cs.length=4)(hl:es.length≤1000)(H:∀cs∈es,zC g f [.agg (pvC cs)] [] (.agg (pvC cs)) []):
  zC g 125 [.pv (.sl 4 es),.pv (.v (.func (.func f) #[] #[]))] [] (.pv (.sl 4 es)) []:=by
 by_cases h0:es=[]
 ·subst h0;refine SCalls.out ?_ (z3z 4);refine za tf_114 ?_;simp only[vW,seval]
 refine z2M zk tf_114 rfl ?_
 conv in SFunc.code _=>reduce
 have d0:¬(es.length:Int)=0:=by have:=List.length_pos_iff.2 h0;omega
 have z0:=z8t (es:=es) (zs:=[.int .i64 0,.int .i64 0,.string ⟨#[]⟩,.slice none 0 0]) rfl;simp only[List.map_cons,List.map_nil]at z0;generalize hz:[PV.v (Value.int .i64 0),PV.v (Value.int .i64 0),PV.v (Value.string ⟨#[]⟩),PV.v (Value.slice none 0 0)]=z at z0;have hzl:z.length=4:=by rw[←hz];rfl
 refine z02 zk ?_;simp only[vW,seval];refine z02 zk ?_;simp only[vW,seval,d0];refine z02 zk ?_;simp only[vW,seval,z0];refine⟨⟨by omega,by unfold maxLen;omega⟩,?_⟩;refine z02 zk ?_;simp only[vW,seval,d0];refine zp (σ:={i:Nat // i≤es.length}) (fun i=>⟨[(1,.pv (.v (.func (.func f) #[] #[]))),(5,.bs 13 0 es.length es.length),(14,.pv (.sl 4 es)),(15,I (es.length:Int)),(16,I (i.1:Int))],[(13,pvC (z1U es z i.1).flatten)],[],[]⟩) (fun i=>es.length-i.1) ⟨0,Nat.zero_le _⟩ ?_ ?_
 ·exact lwA
 rintro⟨i,hi⟩;by_cases hlt:i<es.length
 ·have d1:(i:Int)<(es.length:Int):=by omega
  obtain⟨cs,ex⟩:∃x,es[i]?=some x:=⟨_,gE hlt⟩
  have HC:=H cs (gM ex);have hp:=fun t ht=>zaF hW hzl ex (t:=t) ht;have hfl:(z1U es z i).flatten.length=es.length*4:=by rw[z2S (z7C hW hzl),z7B hi]
  obtain⟨a,b,c,d,rfl⟩:=zrm (hW cs (gM ex));have hp:=hp _ rfl;have w1:=wS i;unfold pvC at HC;simp only[List.map_cons,List.map_nil]at hp HC;simp only[vW,seval,d1,ex];(with_reducible apply zG);exact kv;exact HC;rfl;exact kv;simp only[vW,seval,d1,hp,w1];refine⟨by omega,zc ⟨i+1,by omega⟩ (by show es.length-(i+1)<es.length-i;omega) lwA⟩
 ·have d1:¬(i:Int)<(es.length:Int):=by omega
  obtain rfl:i=es.length:=by omega
  simp only[vW,seval,d1];rw[zaE];refine z42 (z69 (k:=5) (d:=13) (es:=es) (c:=es.length) rfl hW rfl) (z2K zk ?_);simp only[vW,seval]
theorem zbA(g:Sh.Glob)(l:List V)(hl:l.length≤1000)(H:∀x∈l,zC g 126 [tv x] [] (tv x) []):zC g 70 [.pv (.sl 4 (V.rows l))] [] (.pv (.sl 4 (V.rows l))) []:=by
 have HE:=zmV g 126 (V.rows l) (zc2 l) (by rw[z1m];exact hl) (fun cs hcs=>by
  rw[z0j]at hcs;obtain⟨x,hx,rfl⟩:=List.mem_map.1 hcs;have:=H x hx;rw[z1b];exact this)
 refine z0w tf_110 ?_;exact zd HE
theorem zgI(g:Sh.Glob){x:V}(hx:VFew x):zC g 126 [tv x] [] (tv x) []:=by
 induction hx with
 |mk h hs ih=>
  rename_i k n s l;have HV:=zbA g l h ih;refine za tf_109 ?_;simp only[vW,seval];refine z8 HV ?_;simp only[vW,seval]
theorem zfa(g:Sh.Glob)(l:List V)(hl:l.length≤1000)(hf:∀v∈l,VFew v):zC g 70 [.pv (.sl 4 (V.rows l))] [] (.pv (.sl 4 (V.rows l))) []:=
 zbA g l hl fun x hx=>zgI g (hf x hx)
theorem zo4(g:Sh.Glob)(f:Fld):zC g 68 [.agg (pvC (flR1 f))] [] (.agg (pvC (flR1 f))) []:=by
 refine za tf_116 ?_;unfold flR1 pvC;simp only[vW,seval]
theorem z5B(g:Sh.Glob)(c:Cls)(hl:c.fs.length≤1000):zC g 34 [clT c] [] (clT c) []:=by
 have HE:=zmU g 68 (flR c.fs) (fun cs hcs=>by
  obtain⟨x,hx,rfl⟩:=List.mem_map.1 hcs;rfl) (by rw[z3f];exact hl) (fun cs hcs=>by
  obtain⟨x,hx,rfl⟩:=List.mem_map.1 hcs;exact zo4 g x)
 refine za tf_107 ?_;unfold clT;simp only[vW,seval];refine z8 HE ?_;simp only[vW,seval]
def lnR(l:Ln):List PV:=[.v (.string (str l.c.n)),.sl 4 (flR l.c.fs),.sl 8 (z2b l.hs)]
def z3W(ls:List Ln):List (List PV):=ls.map lnR
end
section
open Go.Sh.Cd1 Go.Sh.Cd7
theorem z4a(g:Sh.Glob)(c n:Int)(hc:I64 c)(hn:0<n):zC g 54 [I c,I n] [] (I (Go.Mor.pick c n)) []:=by
 obtain⟨h0,h1⟩:=hc;refine za tf_126 ?_;have hne:¬n=0:=by omega
 unfold Go.Mor.pick;by_cases hneg:c<0
 ·rw[if_pos hneg];have w1:IntKind.i64.wrap (c+1)=c+1:=wrap64 (by omega) (by omega);have w2:IntKind.i64.wrap (0-(c+1))= -(c+1):=wG;have hm:(-(c+1)).tmod n=(-(c+1))%n:=Int.tmod_eq_emod_of_nonneg (by omega);simp only[vW,seval,hneg,hne,w1,w2,hm]
 ·rw[if_neg hneg];have hm:c.tmod n=c%n:=Int.tmod_eq_emod_of_nonneg (by omega);simp only[vW,seval,hneg,hne,hm]
def z7G(r:Option (zB)):TV:=match r with|some s=> .tuple [S (str s),B true]|none=> .tuple [S (str []),B false]
theorem z8r(g:Sh.Glob)(c:Cls)(n:Int)(t:Ty)(hn:I64 n)(hl:c.fs.length≤1000):zC g 95 [clT c,I n,tyT t] [] (z7G (z3U c n t)) []:=by
 have PN:=z4a g n 100 hn (by decide);have hb:=zH n 100 (by decide);obtain⟨j,hj⟩:=Int.eq_ofNat_of_zero_le hb.1;rw[hj]at PN;have e0:=bS [];obtain⟨R,hR⟩:∃R,z3U c n t=R:=⟨_,rfl⟩
 rw[hR];unfold z3U at hR;rw[hj,Int.toNat_natCast]at hR;obtain⟨tk,ot⟩:=t;refine za tf_125 ?_;unfold clT tyT;simp only[vW,seval,e0];refine zp (σ:={i:Nat // i≤c.fs.length∧z7F c.fs j ⟨tk,ot⟩ (c.fs.length-i) i=R}) (fun i=>⟨[(1,I n),(3,.ptr 3 0),(5,.ptr 5 0),(8,I (i.1:Int))],[(3,[S (str c.n),.pv (.sl 4 (flR c.fs))]),(5,[I tk,I ot])],[],[]⟩) (fun i=>c.fs.length-i.1) ⟨0,Nat.zero_le _,hR⟩ ?_ ?_
 ·exact lwA
 rintro⟨i,hi,hT⟩;by_cases hlt:i<c.fs.length
 ·have d1:(i:Int)<(c.fs.length:Int):=by omega
  have w0:IntKind.i64.wrap ((j:Int)+(i:Int))=((j+i:Nat):Int):=wG;have w1:=wS i;have m0:Int.tmod ((j+i:Nat):Int) (c.fs.length:Int)=(((j+i)%c.fs.length:Nat):Int):=(Int.ofNat_tmod _ _).symm;have z0:¬(c.fs.length:Int)=0:=by omega
  have hq:=Nat.mod_lt (j+i) (show 0<c.fs.length by omega);obtain⟨f,ef⟩:∃f,c.fs[(j+i)%c.fs.length]?=some f:=⟨_,gE hq⟩
  obtain⟨k,hk⟩:∃k,c.fs.length-i=k+1:=⟨c.fs.length-i-1,by omega⟩
  rw[hk,z7F,List.getD_eq_getElem?_getD,ef]at hT;simp only[Option.getD_some]at hT;generalize(j+i)%c.fs.length=q at*;cases he:z0i f.t ⟨tk,ot⟩
  ·rw[he]at hT;simp only[Bool.false_eq_true,if_false]at hT;have he':z0i ⟨f.t.k,f.t.o⟩ ⟨tk,ot⟩=false:=he;simp only[vW,seval,d1,clV];refine z7 PN ?_;simp only[vW,seval,clV,w0,m0,z0,ef,z5d,he',w1];refine zc ⟨i+1,hlt,by rw[show c.fs.length-(i+1)=k by omega];exact hT⟩ (by show c.fs.length-(i+1)<c.fs.length-i;omega) ?_;exact lwA
  ·rw[he]at hT;simp only[if_true]at hT;subst hT;have he':z0i ⟨f.t.k,f.t.o⟩ ⟨tk,ot⟩=true:=he;unfold z7G B;simp only[vW,seval,d1,clV];refine z7 PN ?_;simp only[vW,seval,clV,w0,m0,z0,ef,z5d,he',w1]
 ·have d1:¬(i:Int)<(c.fs.length:Int):=by omega
  rw[show c.fs.length-i=0 by omega,z7F]at hT;subst hT;unfold z7G B;simp only[vW,seval,d1,clV,e0]
theorem znz{a:zB}(h:a∈numL):a.length≤9:=by
 have:numL.all (fun a=>decide (a.length≤9))=true:=by decide
 simpa using List.all_eq_true.1 this a h
theorem zoo{a:zB}(h:a∈txtL):a.length≤9:=by
 have:txtL.all (fun a=>decide (a.length≤9))=true:=by decide
 simpa using List.all_eq_true.1 this a h
theorem zf1(g:Sh.Glob)(n:Int)(t:Ty)(c:Cls)(hn:I64 n)(hl:c.fs.length≤1000)(hc:∀f∈c.fs,f.n∈nmL):zC g 55 [I n,tyT t,clT c] [] (S (str (z5e n t c))) []:=by
 have F1:=z8r g c n ⟨1,0⟩ hn hl;have hn2:I64 (n.tdiv 2):=by
  obtain⟨h0,h1⟩:=hn;unfold I64;rcases Int.le_total 0 n with h|h
  ·rw[Int.tdiv_eq_ediv_of_nonneg h];omega
  ·have e:n= -(-n):=by omega
   rw[e,Int.neg_tdiv,Int.tdiv_eq_ediv_of_nonneg (by omega)];omega
 have F2:=z8r g c (n.tdiv 2) ⟨2,0⟩ hn2 hl;have F3:=z8r g c n t hn hl;have P8:=z4a g n 8 hn (by decide);have P3:=z4a g n 3 hn (by decide);have b8:=zH n 8 (by decide);obtain⟨j,hj⟩:=Int.eq_ofNat_of_zero_le b8.1;have la:=znz (zaR hc n);have lb:=zoo (zb6 hc n);have w2:IntKind.i64.wrap (n.tdiv 2)=n.tdiv 2:=wrap64 hn2.1 hn2.2;obtain⟨E,hE⟩:∃E,z5e n t c=E:=⟨_,rfl⟩
 rw[hE];unfold z5e at hE;rw[hj,Int.toNat_natCast]at hE;rw[hj]at P8;have hj8:j=0∨j=1∨j=2∨j=3∨j=4∨j=5∨j=6∨j=7:=by omega
 have q0:=bS [32,42,32,50,32,45,32,49];have q1:=bS [108,101,110,40];have q2:=bS [41];have q3:=bS [105,102,40];have q4:=bS [32,62,32,50,44,32];have q5:=bS [44,32,48,32,45,32];have q6:=bS [102,105,110,100,40,34,98,34,44,32];have q7:=bS [32,47,32];have q8:=bS [32,38,32,34,45,34,32,38,32];have q9:=bS [116,101,120,116,40];have q10:=bS [108,101,102,116,40];have q11:=bS [44,32,50,41];have q12:=bS [102,114,111,109,40];have q13:=bS [44,32,51,41];have q14:=bS [32,61,32,49,44,32];have q15:=bS [44,32,34,110,111,34,41];have q16:=bS [51];have q17:=bS [34,120,34];have q18:=bS [55];have q19:=bS [34,97,32,98,34];have q20:=bS [];obtain⟨tk,ot⟩:=t
 dsimp only at hE
 have hA:z8M c n=(z3U c n ⟨1,0⟩).getD [55]:=rfl;have hB:z9i c n=(z3U c (n.tdiv 2) ⟨2,0⟩).getD [34,97,32,98,34]:=rfl;generalize z8M c n=a at*;generalize z9i c n=b at*;refine z7v zk tf_124 rfl ?_;unfold clT tyT at*
 dsimp only at*
 generalize z3U c n ⟨1,0⟩=x at*;generalize z3U c (n.tdiv 2) ⟨2,0⟩=y at*;generalize z3U c n ⟨tk,ot⟩=z at*;have main:∀(sx sy:zB) (bx by_:Bool),z7G x=.tuple [S (str sx),.pv (.v (.bool bx))]→z7G y=.tuple [S (str sy),.pv (.v (.bool by_))]→a=(if bx then sx else [55])→b=(if by_ then sy else [34,97,32,98,34])→swp Tryz.prog g F_124.code (Post0 F_124.res (S (str E))) (startE [I n,.agg [I tk,I ot],.agg [S (str c.n),.pv (.sl 4 (flR c.fs))]] []):=by
  intro sx sy bx by_ hx hy ha hb;rw[hx]at F1;rw[hy]at F2;have zu:True:=trivial;cases bx<;>cases by_
  all_goals(
   simp only[if_true,Bool.false_eq_true,if_false]at ha hb;subst ha;subst hb;simp only[vW,seval];refine z7 F1 ?_;simp only[vW,seval,w2];refine z7 F2 ?_;by_cases t1:tk=1
   ·rw[if_pos t1]at hE;simp only[vW,seval,t1,q0,q1,q2,q3,q4,q5,q6,q7,q8,q9,q10,q11,q12,q13,q14,q15,q16,q17,q18,q19,q20];repeat(with_reducible refine And.intro (by omega) ?_)
    refine z7 P8 ?_;rcases hj8 with rfl|rfl|rfl|rfl|rfl|rfl|rfl|rfl
    all_goals(
     simp only[vW,seval];subst hE;first|rfl|simp[zfA])
   rw[if_neg t1]at hE;by_cases t2:tk=2
   ·rw[if_pos t2]at hE;simp only[vW,seval,t1,t2,q0,q1,q2,q3,q4,q5,q6,q7,q8,q9,q10,q11,q12,q13,q14,q15,q16,q17,q18,q19,q20];repeat(with_reducible refine And.intro (by omega) ?_)
    refine z7 P8 ?_;rcases hj8 with rfl|rfl|rfl|rfl|rfl|rfl|rfl|rfl
    all_goals(
     simp only[vW,seval];subst hE;first|rfl|simp[zgo])
   rw[if_neg t2]at hE;simp only[vW,seval,t1,t2,q0,q1,q2,q3,q4,q5,q6,q7,q8,q9,q10,q11,q12,q13,q14,q15,q16,q17,q18,q19,q20];cases z with
   |none=>
    unfold z7G B at F3
    dsimp only at F3 hE
    subst hE;refine z7 F3 ?_;simp only[vW,seval,q0,q1,q2,q3,q4,q5,q6,q7,q8,q9,q10,q11,q12,q13,q14,q15,q16,q17,q18,q19,q20]
   |some s=>
    unfold z7G B at F3
    dsimp only at F3 hE
    refine z8 F3 ?_;refine z7 P3 ?_;by_cases p0:0<Go.Mor.pick n 3
    ·rw[if_pos p0]at hE;subst hE;simp only[vW,seval,p0]
    ·rw[if_neg p0]at hE;subst hE;simp only[vW,seval,p0,q0,q1,q2,q3,q4,q5,q6,q7,q8,q9,q10,q11,q12,q13,q14,q15,q16,q17,q18,q19,q20])
 cases x with
 |none=>cases y with
  |none=>exact main [] [] false false rfl rfl hA hB
  |some s2=>exact main [] s2 false true rfl rfl hA hB
 |some s1=>cases y with
  |none=>exact main s1 [] true false rfl rfl hA hB
  |some s2=>exact main s1 s2 true true rfl rfl hA hB
theorem zeR{c:Cls}(h:ze c=true):ClsOk c∧c.fs.length≤8:=by
 have hr:=(z0Y c).1 h;have key:∀s,zb s=true→z0t s:=fun s hs=>by
  unfold zb at hs;simp only[Bool.and_eq_true,decide_eq_true_eq]at hs;have:=hs.1.1.2;unfold z0t;omega
 refine⟨⟨key _ hr.1,fun f hf=>key _ ?_,by omega⟩,hr.2.1⟩;have:=hr.2.2.1 f hf;unfold zF at this;simp only[Bool.and_eq_true]at this;exact this.1.1
theorem zoS:I64 0:=⟨by decide,by decide⟩
theorem zld{i:Nat}(h:i<6):([[PV.v (.string ⟨#[110,101,119,95,49]⟩)],[.v (.string ⟨#[109,111,114,101]⟩)],[.v (.string ⟨#[122,57]⟩)],[.v (.string ⟨#[97]⟩)],[.v (.string ⟨#[110,97,109,101]⟩)],[.v (.string ⟨#[107,105,100,115]⟩)]]:List (List PV))[i]?=some [.v (.string (str (nmH (i:Int))))]:=by
 have:i=0∨i=1∨i=2∨i=3∨i=4∨i=5:=by omega
 rcases this with rfl|rfl|rfl|rfl|rfl|rfl<;>rfl
theorem zg3{s:zB}(h:s=[]∨s∈exL):RTx s:=by
 rcases h with rfl|h
 ·exact⟨⟨(V.nil,0,50),by kernel_rfl⟩,fun h=>absurd rfl h⟩
 ·obtain⟨_,h2,r,hr,_⟩:=zhr h;exact⟨⟨r,hr⟩,(z9X 0 hr (by omega)).sm⟩
theorem zmI(g:Sh.Glob)(x:RawH)(c:Cls)(hx:RawHOk x)(hg:ze c=true)(hn:∀f∈c.fs,f.n∈nmL):zC g 23 [zjp x,clT c] [] (.tuple [chT (z1T x c),B (okV c (z1T x c))]) []:=by
 have hc6:=(zeR hg).2;have hcl:=(zeR hg).1;have hin:=zeM x hn;have sh:∀s:zB,s.length≤20→z0t s:=fun s h=>by unfold z0t;omega
 have HR:=z92 g c (z1T x c) hcl (sh _ hin.f) (sh _ hin.n) (sh _ hin.m) (zg3 hin.x) (zg3 hin.o);have HC:=za6 g ⟨0,[⟨0,x.t.k,x.t.o,false⟩]⟩ ⟨zoS,fun r hr=>by obtain rfl:=List.mem_singleton.1 hr;exact⟨zoS,hx.tk,hx.ot⟩,by simp⟩;have hcf:zn ⟨0,[⟨0,x.t.k,x.t.o,false⟩]⟩=⟨nmC 0,[⟨nmF 0,tyH x.t,false⟩]⟩:=rfl;rw[hcf]at HC;have PK:=z4a g x.k 6 hx.k (by decide);have PN:=z4a g x.n 6 hx.n (by decide);have PM:=z4a g x.m 6 hx.m (by decide);have bk:=zH x.k 6 (by decide);have bn:=zH x.n 6 (by decide);have bm:=zH x.m 6 (by decide);have E1:=zf1 g x.x (tyH x.t) c hx.x (by omega) hn;have E2:=zf1 g x.o (tyH x.t) c hx.o (by omega) hn;obtain⟨jn,hjn⟩:=Int.eq_ofNat_of_zero_le bn.1;obtain⟨jm,hjm⟩:=Int.eq_ofNat_of_zero_le bm.1;have en:=zld (i:=jn) (by omega);have em:=zld (i:=jm) (by omega);have e0:=bS [];obtain⟨h,hh⟩:∃h,z1T x c=h:=⟨_,rfl⟩
 rw[hh]at HR ⊢;unfold z1T at hh;rw[hjn,hjm]at hh;rw[hjn]at PN;rw[hjm]at PM;have wk:IntKind.i64.wrap (1+Go.Mor.pick x.k 6)=1+Go.Mor.pick x.k 6:=wrap64 (by omega) (by omega);clear hin
 dsimp only at hh
 generalize Go.Mor.pick x.k 6=k at*;generalize nmH (jn:Int)=nn at*;generalize nmH (jm:Int)=mm at*;generalize z5e x.x (tyH x.t) c=xx at*;generalize z5e x.o (tyH x.t) c=oo at*;generalize tyH x.t=t at*;obtain⟨tk,ot⟩:=t;generalize hfn:(if c.fs=[] then [] else(c.fs.getD (Go.Mor.pick x.f c.fs.length).toNat z4u).n)=fn at hh;generalize hR:okV c h=R at*;have hk:k=0∨k=1∨k=2∨k=3∨k=4∨k=5:=by omega
 refine za tf_123 ?_;unfold zjp clT tyT B z8V at*;simp only[vW,seval];refine z7 HC ?_;simp only[vW,seval,clV];refine z7 PK ?_;simp only[vW,seval,wk];refine z7 PN ?_;simp only[vW,seval,en];refine z7 PM ?_;simp only[vW,seval,em];refine z8 E1 ?_;refine z7 E2 ?_;have hfs:(c.fs=[]∧fn=[]∧¬(0:Int)<(c.fs.length:Int))∨(∃(j:Nat) (y:Fld),(0:Int)<(c.fs.length:Int)∧zC g 54 [I x.f,I (c.fs.length:Int)] [] (I (j:Int)) []∧c.fs[j]?=some y∧fn=y.n):=by
  by_cases h0:c.fs=[]
  ·rw[if_pos h0]at hfn;exact .inl ⟨h0,hfn.symm,by rw[h0];decide⟩
  ·have hlp:0<c.fs.length:=List.length_pos_iff.2 h0;have d0:(0:Int)<(c.fs.length:Int):=by omega
   have PF:=z4a g x.f (c.fs.length:Int) hx.f d0;have bf:=zH x.f (c.fs.length:Int) d0;obtain⟨j,hj⟩:=Int.eq_ofNat_of_zero_le bf.1;rw[hj]at PF;obtain⟨y,ey⟩:∃y,c.fs[j]?=some y:=⟨_,gE (by omega)⟩
   rw[if_neg h0,hj,Int.toNat_natCast,Go.Mor.getD_of ey]at hfn;exact .inr ⟨j,y,d0,PF,ey,hfn.symm⟩
 clear hfn;rcases hk with rfl|rfl|rfl|rfl|rfl|rfl
 ·obtain rfl:h=⟨1,[],nn,[],⟨tk,ot⟩,xx,[]⟩:=by rw[←hh];rfl
  clear hh;rcases hfs with⟨h0,rfl,d0⟩|⟨j,y,d0,PF,ey,rfl⟩
  ·unfold chT at*;try unfold ty0 at*
   simp only[vW,seval,d0,e0,clV];refine z8 HR ?_;try trivial
  ·unfold chT at*;try unfold ty0 at*
   simp only[vW,seval,d0,clV];refine z7 PF ?_;simp only[vW,seval,clV,ey,e0];refine z8 HR ?_;try trivial
 ·obtain rfl:h=⟨2,fn,[],[],ty0,[],[]⟩:=by rw[←hh];rfl
  clear hh;rcases hfs with⟨h0,rfl,d0⟩|⟨j,y,d0,PF,ey,rfl⟩
  ·unfold chT at*;try unfold ty0 at*
   simp only[vW,seval,d0,e0,clV];refine z8 HR ?_;try trivial
  ·unfold chT at*;try unfold ty0 at*
   simp only[vW,seval,d0,clV];refine z7 PF ?_;simp only[vW,seval,clV,ey,e0];refine z8 HR ?_;try trivial
 ·obtain rfl:h=⟨3,fn,nn,[],ty0,[],[]⟩:=by rw[←hh];rfl
  clear hh;rcases hfs with⟨h0,rfl,d0⟩|⟨j,y,d0,PF,ey,rfl⟩
  ·unfold chT at*;try unfold ty0 at*
   simp only[vW,seval,d0,e0,clV];refine z8 HR ?_;try trivial
  ·unfold chT at*;try unfold ty0 at*
   simp only[vW,seval,d0,clV];refine z7 PF ?_;simp only[vW,seval,clV,ey,e0];refine z8 HR ?_;try trivial
 ·obtain rfl:h=⟨4,fn,[],[],⟨tk,ot⟩,xx,[]⟩:=by rw[←hh];rfl
  clear hh;rcases hfs with⟨h0,rfl,d0⟩|⟨j,y,d0,PF,ey,rfl⟩
  ·unfold chT at*;try unfold ty0 at*
   simp only[vW,seval,d0,e0,clV];refine z8 HR ?_;try trivial
  ·unfold chT at*;try unfold ty0 at*
   simp only[vW,seval,d0,clV];refine z7 PF ?_;simp only[vW,seval,clV,ey,e0];refine z8 HR ?_;try trivial
 ·obtain rfl:h=⟨5,fn,nn,mm,⟨tk,ot⟩,xx,oo⟩:=by rw[←hh];rfl
  clear hh;rcases hfs with⟨h0,rfl,d0⟩|⟨j,y,d0,PF,ey,rfl⟩
  ·unfold chT at*;try unfold ty0 at*
   simp only[vW,seval,d0,e0,clV];refine z8 HR ?_;try trivial
  ·unfold chT at*;try unfold ty0 at*
   simp only[vW,seval,d0,clV];refine z7 PF ?_;simp only[vW,seval,clV,ey,e0];refine z8 HR ?_;try trivial
 ·obtain rfl:h=⟨6,fn,[],[],ty0,[],[]⟩:=by rw[←hh];rfl
  clear hh;rcases hfs with⟨h0,rfl,d0⟩|⟨j,y,d0,PF,ey,rfl⟩
  ·unfold chT at*;try unfold ty0 at*
   simp only[vW,seval,d0,e0,clV];refine z8 HR ?_;try trivial
  ·unfold chT at*;try unfold ty0 at*
   simp only[vW,seval,d0,clV];refine z7 PF ?_;simp only[vW,seval,clV,ey,e0];refine z8 HR ?_;try trivial
end
end Go.Proofs.YtbkgnekfigknhaaGreatDoor
end
