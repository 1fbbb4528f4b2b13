/- Merged texts: Ye3 Ya9 Zn1 Cd11 Yb1 Zn5 Yb2 Yd1 Yd6. No statement of the program is proved here. -/
import Derived.Test.YtpmlapgbmgbilaaGreatDoorR39
set_option linter.unusedSimpArgs false
set_option linter.unusedVariables false
set_option maxRecDepth 100000
set_option maxHeartbeats 8000000
section
namespace Go.Proofs.YtpmlapgbmgbilaaGreatDoor
open Go Go.RowKit Go.Mor Go.Sh Go.Sh.Cd1
section
open Go.Sh.Cd4
theorem za0{α:Type}{r:Rd α}{e l:zB}{v:α}(h:Enc r e v)(pre post:zB)(hl:l=pre++e++post):r l (pre.length:Int)=some (v,(((pre++e).length:Nat):Int)):=by
 rw[hl,h pre post,List.length_append]
def z4z(c:Cls)(i:Nat):zB:=(c.fs.drop i).flatMap encF'
theorem z8u(c:Cls)(i:Nat):z0D c=encTo' c i++z4z c i:=by
 unfold z0D encTo' z4z;rw[List.take_length];simp only[List.append_assoc];rw[←List.flatMap_append,List.take_append_drop]
theorem ziS{c:Cls}{i:Nat}{f:Fld}(h:c.fs[i]?=some f):z4z c i=encF' f++z4z c (i+1):=by
 obtain⟨hl,he⟩:=gJ h;unfold z4z;rw[List.drop_eq_getElem_cons hl,List.flatMap_cons,he]
theorem zig{l t:zB}{a b:Int}(h:zU l a=some (t,b)):txS l (a,false)=(t,(b,false)):=by unfold txS;simp[h]
theorem z9P{l:zB}{a n b:Int}(h:z06 l a=some (n,b)):nuS l (a,false)=(n,(b,false)):=by unfold nuS;simp[h]
theorem zq0{c:Cls}(hc:zd c=true):zU (z0D c) 0=some (c.n,((text c.n).length:Int))∧z06 (z0D c) ((text c.n).length:Int)=some ((c.fs.length:Int),((encTo' c 0).length:Int)):=by
 obtain⟨f1,f2,f3⟩:=z5T hc;have e:z0D c=[]++text c.n++(num c.fs.length++z4z c 0):=by rw[z8u c 0];unfold encTo';simp
 have e2:z0D c=text c.n++num c.fs.length++z4z c 0:=by rw[z8u c 0];unfold encTo';simp
 have h1:=za0 (z45 c.n (by omega)) [] _ e;have h2:=za0 (z4k (c.fs.length:Int) (by omega) (by omega)) (text c.n) _ e2;refine⟨by simpa using h1,?_⟩;rw[h2];unfold encTo';simp
theorem zrr{c:Cls}(hc:zd c=true){i:Nat}{f:Fld}(h:c.fs[i]?=some f):∃p q r:Nat,zU (z0D c) ((encTo' c i).length:Int)=some (f.n,(p:Int))∧z06 (z0D c) (p:Int)=some (f.t.k,(q:Int))∧z06 (z0D c) (q:Int)=some (f.t.o,(r:Int))∧
  z06 (z0D c) (r:Int)=some ((if f.ix then 1 else 0),((encTo' c (i+1)).length:Int))∧p≤10000∧q≤10000∧r≤10000:=by
 obtain⟨f1,f2,f3⟩:=z5T hc;obtain⟨g1,g2,g3⟩:=f3 f (gM h);have hil:=(gJ h).1;have hl:=encTo'_len hc (i+1);have hs:=encTo'_succ h;have e:=(z8u c i).trans (by rw[ziS h]);have e1:z0D c=encTo' c i++text f.n++(num f.t.k++num f.t.o++num (if f.ix then 1 else 0)++z4z c (i+1)):=by rw[e];unfold encF';simp
 have e2:z0D c=(encTo' c i++text f.n)++num f.t.k++(num f.t.o++num (if f.ix then 1 else 0)++z4z c (i+1)):=by rw[e1];simp
 have e3:z0D c=(encTo' c i++text f.n++num f.t.k)++num f.t.o++(num (if f.ix then 1 else 0)++z4z c (i+1)):=by rw[e1];simp
 have e4:z0D c=(encTo' c i++text f.n++num f.t.k++num f.t.o)++num (if f.ix then 1 else 0)++z4z c (i+1):=by rw[e1];simp
 have h1:=za0 (z45 f.n (by omega)) _ _ e1;have h2:=za0 (z4k f.t.k g2.1 g2.2) _ _ e2;have h3:=za0 (z4k f.t.o g3.1 g3.2) _ _ e3;have h4:=za0 (z4k (if f.ix then 1 else 0) (by split<;>omega) (by split<;>omega)) _ _ e4;have e5:encTo' c i++text f.n++num f.t.k++num f.t.o++num (if f.ix then 1 else 0)=encTo' c (i+1):=by rw[hs];unfold encF';simp
 rw[e5]at h4;have k:(encTo' c (i+1)).length≤10000:=by omega
 rw[←e5]at k;simp only[List.length_append]at k;exact⟨_,_,_,h1,h2,h3,h4,by simp only[List.length_append];omega,by simp only[List.length_append];omega,by simp only[List.length_append];omega⟩
theorem zl3(a0 a1:Addr)(m:Nat)(l:zB)(f:Fld)(a p q r z:Nat)(hl:l.length<1125899906842624)(ha:a≤10000)(hp:p≤10000)(hq:q≤10000)(hr:r≤10000)
  (h1:zU l (a:Int)=some (f.n,(p:Int))) (h2:z06 l (p:Int)=some (f.t.k,(q:Int))) (h3:z06 l (q:Int)=some (f.t.o,(r:Int))) (h4:z06 l (r:Int)=some ((if f.ix then 1 else 0),(z:Int))):
  zC (gl a0 a1 m) 44 [.fn (.func 42) [.ptr 1000 0] [],.fn (.func 43) [.ptr 1000 0] []] [rdB l ((a:Int),false)] (.tuple [flT f,B true]) [rdB l ((z:Int),false)]:=by
 have T1:=zc1 a0 a1 m l ((a:Int),false) hl ⟨by omega,by omega⟩;have N2:=z6D a0 a1 m l ((p:Int),false) hl ⟨by omega,by omega⟩;have N3:=z6D a0 a1 m l ((q:Int),false) hl ⟨by omega,by omega⟩;have N4:=z6D a0 a1 m l ((r:Int),false) hl ⟨by omega,by omega⟩;rw[zig h1]at T1;rw[z9P h2]at N2;rw[z9P h3]at N3;rw[z9P h4]at N4;obtain⟨fn,⟨fk,fo⟩,ix⟩:=f
 dsimp only at*
 refine zj tf_61 ?_;unfold rdB flT B at*;simp only[vW,seval];(with_reducible apply zr);exact kv;exact T1;rfl;exact kv;simp only[vW,seval];(with_reducible apply zr);exact kv;exact N2;rfl;exact kv;simp only[vW,seval];(with_reducible apply zr);exact kv;exact N3;rfl;exact kv;simp only[vW,seval];(with_reducible apply zr);exact kv;exact N4;rfl;exact kv;cases ix
 ·simp only[vW,seval]
 ·simp only[vW,seval]
theorem zpS{c:Cls}{i:Nat}{f:Fld}(h:c.fs[i]?=some f):flR (c.fs.take (i+1))=flR (c.fs.take i)++[flR1 f]:=by
 unfold flR;rw[List.take_add_one,h,List.map_append];rfl
theorem ziM(a0 a1:Addr)(m:Nat)(c:Cls)(hc:zd c=true):zC (gl a0 a1 m) 18 [S (str (z0D c)),I 0] [] (.tuple [clT c,I ((z0D c).length:Int),I 0]) []:=by
 have HR:=z0k (gl a0 a1 m) c (z1h hc).1;rw[hc]at HR;obtain⟨f1,f2,f3⟩:=z5T hc;have hL:=encTo'_len hc c.fs.length;have hl:(z0D c).length≤10000:=by unfold z0D;omega
 have he:(z0D c).length=(encTo' c c.fs.length).length:=rfl;obtain⟨r1,r2⟩:=zq0 hc;have t1:=z4d (l:=c.n) (by omega);have T1:=zc1 a0 a1 m (z0D c) (0,false) (by omega) ⟨by decide,by decide⟩;rw[zig r1]at T1;have N2:=z6D a0 a1 m (z0D c) (((text c.n).length:Int),false) (by omega) ⟨by simp only;omega,by simp only;omega⟩;rw[z9P r2]at N2;have d1:¬(c.fs.length:Int)<0:=by omega
 have d2:¬(8:Int)<(c.fs.length:Int):=by omega
 refine z27 tf_54 ?_;unfold rdB clT B at*;simp only[vW,seval];refine z7 T1 ?_;simp only[vW,seval];refine z7 N2 ?_;simp only[vW,seval,d1,d2];refine zk (σ:={i:Nat // i≤c.fs.length}) (fun i=>⟨[(4,.ptr 4 0),(7,.ptr 7 0),(8,.ptr 8 0),(25,I (c.fs.length:Int)),(26,I (i.1:Int))],[(4,[S ⟨#[]⟩,zn]),(7,[S (str (z0D c)),I ((encTo' c i.1).length:Int),.pv (.v (.bool false))]),(8,[S (str c.n),.own 3000 4 (flR (c.fs.take i.1))])],[(3000,(71,4,i.1))],[]⟩) (fun i=>c.fs.length-i.1) ⟨0,Nat.zero_le _⟩ ?_ ?_
 ·refine ES.Lw.trans ?_ (z5k (x:=8) (j:=1) (d:=3000) (e:=71) (W:=4) (.inr (by decide)) (by decide) rfl (by simp only[vcA,seval]) rfl);exact z18 rfl
 rintro⟨i,hi⟩;by_cases hlt:i<c.fs.length
 ·have d3:(i:Int)<(c.fs.length:Int):=by omega
  obtain⟨f,hf⟩:∃f,c.fs[i]?=some f:=⟨_,gE hlt⟩
  obtain⟨p,q,r,h1,h2,h3,h4,k1,k2,k3⟩:=zrr hc hf;have hi1:=encTo'_len hc i;have HF:=zl3 a0 a1 m (z0D c) f (encTo' c i).length p q r (encTo' c (i+1)).length (by omega) (by omega) k1 k2 k3 h1 h2 h3 h4;have w1:=wS i;have hs:=zpS hf;unfold rdB flT B at HF;simp only[vW,seval,d3,zn];refine z7 HF ?_;simp only[vW,seval,zn];have hfl:(flR (c.fs.take i)).length=i:=by rw[z2e,List.length_take];omega
  rw[hfl,w1];refine⟨⟨rfl,by omega,by unfold maxLen;omega⟩,zc ⟨i+1,hlt⟩ (by show c.fs.length-(i+1)<c.fs.length-i;omega) ?_⟩
  dsimp only
  rw[hs];unfold flR1;exact lwA
 ·have d3:¬(i:Int)<(c.fs.length:Int):=by omega
  obtain rfl:i=c.fs.length:=by omega
  rw[List.take_length];simp only[vW,seval,d3,zn];refine z7 HR ?_;simp only[vW,seval];rfl
end
section
open Go.Sh.Cd7 Go.Sh.Cd10
def z2V{α:Type}(es:List (List α))(z:List α)(k:Nat):List (List α):=es.take k++List.replicate (es.length-k) z
theorem zdo{α:Type}{es:List (List α)}{z:List α}{k:Nat}(h:k≤es.length):(z2V es z k).length=es.length:=by unfold z2V;rw[List.length_append,List.length_take,List.length_replicate];omega
theorem zl5{α:Type}{es:List (List α)}{z:List α}:z2V es z es.length=es:=by unfold z2V;simp
theorem zdp{α:Type}{es:List (List α)}{z:List α}{k W:Nat}(hW:∀cs∈es,cs.length=W)(hz:z.length=W):∀cs∈z2V es z k,cs.length=W:=fun cs h=>by
 rcases List.mem_append.1 h with h|h
 ·exact hW _ (List.mem_of_mem_take h)
 ·rw[(List.mem_replicate.1 h).2];exact hz
theorem zl6{α:Type}{es:List (List α)}{z r:List α}{k W:Nat}(hW:∀cs∈es,cs.length=W)(hz:z.length=W)(hk:es[k]?=some r):List.take (k*W) (z2V es z k).flatten++r++List.drop (k*W+W) (z2V es z k).flatten=(z2V es z (k+1)).flatten:=by
 have hl:=(gJ hk).1;rw[z7j (x:=r) (hW r (gM hk)) (zdp hW hz) (by rw[zdo (by omega)];exact hl)];congr 1;unfold z2V;rw[List.take_add_one,hk,List.set_append,List.length_take,if_neg (by omega),show k-min k es.length=0 by omega,show es.length-k=es.length-(k+1)+1 by omega,List.replicate_succ,List.set_cons_zero,List.append_assoc];rfl
theorem z8B{α:Type}{W:Nat}:∀{es:List (List α)},(∀cs∈es,cs.length=W)→es.flatten.length=es.length*W
 |[],_=>by simp
 |cs::es,h=>by
  rw[List.flatten_cons,List.length_append,z8B (es:=es) (fun x hx=>h x (List.mem_cons_of_mem _ hx)),h cs (List.mem_cons_self ..),List.length_cons,Nat.add_mul];omega
theorem z7F{α:Type}{W:Nat}:∀{es:List (List α)},(∀cs∈es,cs.length=W)→∀{i j:Nat} {cs:List α} {c:α},es[i]?=some cs→cs[j]?=some c→es.flatten[i*W+j]?=some c
 |[],_,i,j,cs,c,h,_=>by simp at h
 |x::es,hW,i,j,cs,c,h,hc=>by
  have hx:=hW x (List.mem_cons_self ..);cases i with
  |zero=>
   rw[List.getElem?_cons_zero]at h;cases h;have:=(gJ hc).1;rw[Nat.zero_mul,Nat.zero_add,List.flatten_cons,List.getElem?_append_left this];exact hc
  |succ i=>
   have ih:=z7F (es:=es) (fun y hy=>hW y (List.mem_cons_of_mem _ hy)) (i:=i) (by simpa using h) hc;rw[List.flatten_cons,List.getElem?_append_right (by rw[hx,Nat.add_mul];omega),show(i+1)*W+j-x.length=i*W+j by rw[hx,Nat.add_mul];omega];exact ih
def WkL(a b:List TV):Prop:=a.length=b.length∧∀(j:Nat) c d,a[j]?=some c→b[j]?=some d→Wk c d
theorem WkL.app{a b c d:List TV}(h:WkL a b)(h':WkL c d):WkL (a++c) (b++d):=⟨by rw[List.length_append,List.length_append,h.1,h'.1],fun j x y hx hy=>by
 rcases Nat.lt_or_ge j a.length with hj|hj
 ·rw[List.getElem?_append_left hj]at hx;rw[List.getElem?_append_left (by rw[←h.1];exact hj)]at hy;exact h.2 j x y hx hy
 ·rw[List.getElem?_append_right hj]at hx;rw[List.getElem?_append_right (by rw[←h.1];exact hj),←h.1]at hy;exact h'.2 _ x y hx hy⟩
theorem WkL.flat:∀{A B:List (List TV)},A.length=B.length→(∀(i:Nat) a b,A[i]?=some a→B[i]?=some b→WkL a b)→WkL A.flatten B.flatten
 |[],[],_,_=>⟨rfl,fun j c d h=>by cases h⟩
 |[],b::B,h,_=>by cases h
 |a::A,[],h,_=>by cases h
 |a::A,b::B,h,H=>by
  rw[List.flatten_cons,List.flatten_cons];exact(H 0 a b rfl rfl).app (WkL.flat (by simpa using h) fun i x y hx hy=>H (i+1) x y hx hy)
def Stab(cs:List TV):Prop:=∀c∈cs,(∃p,c=.pv p)∨∃W es,c=.tsl W es
theorem Stab.tail{c:TV}{cs:List TV}(h:Stab (c::cs)):Stab cs:=fun x hx=>h x (List.mem_cons_of_mem _ hx)
theorem Stab.fgt:∀{cs:List TV},Stab cs→∀ids,List.map (fgt3 ids) cs=cs
 |[],_,_=>rfl
 |c::cs,h,ids=>by
  rw[List.map_cons,Stab.fgt h.tail ids];rcases h c (List.mem_cons_self ..)with⟨p,rfl⟩|⟨W,es,rfl⟩<;>rfl
theorem Stab.ids:∀{cs:List TV},Stab cs→cs.flatMap TV.ids1=[]
 |[],_=>rfl
 |c::cs,h=>by
  rw[List.flatMap_cons,Stab.ids h.tail];rcases h c (List.mem_cons_self ..)with⟨p,rfl⟩|⟨W,es,rfl⟩<;>rfl
theorem Stab.ren:∀{cs:List TV},Stab cs→∀ρ,seqO (TV.ren1 ρ) cs=some cs
 |[],_,_=>rfl
 |c::cs,h,ρ=>by
  have ih:=Stab.ren h.tail ρ;rcases h c (List.mem_cons_self ..)with⟨p,rfl⟩|⟨W,es,rfl⟩<;>simp[seqO,ih,TV.ren1,TV.renF,TV.ren0]
theorem Stab.flat{A:List (List TV)}(h:∀a∈A,Stab a):Stab A.flatten:=fun c hc=>by
 obtain⟨a,ha,hca⟩:=List.mem_flatten.1 hc;exact h a ha c hca
def lnT(l:Ln):List TV:=[S (str l.c.n),.pv (.sl 4 (flR l.c.fs)),tgT 8 (z0U l.hs)]
theorem z7M(ls:List Ln):∀cs∈ls.map lnT,cs.length=3:=fun cs h=>by
 obtain⟨l,_,rfl⟩:=List.mem_map.1 h;rfl
theorem znY(l:Ln):Stab (lnT l):=fun c hc=>by
 unfold lnT at hc;simp only[List.mem_cons,List.not_mem_nil,or_false]at hc;rcases hc with rfl|rfl|rfl
 ·exact .inl ⟨_,rfl⟩
 ·exact .inl ⟨_,rfl⟩
 ·cases z0U l.hs with
  |nil=>exact .inl ⟨_,rfl⟩
  |cons e r=>exact .inr ⟨_,_,rfl⟩
theorem z6x(ls:List Ln):∀a∈ls.map lnT,Stab a:=fun a h=>by
 obtain⟨l,_,rfl⟩:=List.mem_map.1 h;exact znY l
theorem zmL(l:Ln):WkL (lnT l) (pvC (lnR l)):=⟨rfl,fun j c d hc hd=>by
 match j with
 |0=>cases hc;cases hd;exact .refl _
 |1=>cases hc;cases hd;exact .refl _
 |2=>cases hc;cases hd;exact ztd 8 _
 |j+3=>cases hc⟩
theorem zfW(es:List (List PV)):es.flatten.map TV.pv=(es.map pvC).flatten:=by
 unfold pvC;rw[List.map_flatten]
theorem zqR(ls:List Ln):WkL (ls.map lnT).flatten ((z0t ls).flatten.map TV.pv):=by
 rw[zfW];unfold z0t;rw[List.map_map];refine WkL.flat (by simp) fun i a b ha hb=> ?_;rw[List.getElem?_map]at ha hb;cases hx:ls[i]? with
 |none=>rw[hx]at ha;cases ha
 |some l=>rw[hx]at ha hb;cases ha;cases hb;exact zmL l
theorem ze5(g:Sh.Glob)(l:Ln)(hl:l.c.fs.length≤1000)(hh:l.hs.length≤1000):zC g 64 [.agg (pvC (lnR l))] [] (.agg (lnT l)) []:=by
 have HE:=zkR g 93 (z0U l.hs) (fun cs hcs=>by
  obtain⟨x,hx,rfl⟩:=List.mem_map.1 hcs;rfl) (by rw[z0K];exact hh) (fun cs hcs=>by
  obtain⟨x,hx,rfl⟩:=List.mem_map.1 hcs;exact zow g x)
 have HC:=z3X g l.c hl;unfold lnR lnT pvC;generalize z0U l.hs=es at*;unfold clT at HC;cases es with
 |nil=>
  unfold tgT at*;refine za tf_118 ?_;simp only[vW,seval];refine z8 HC ?_;refine z8 HE ?_;trivial
 |cons e r=>
  unfold tgT at*;refine za tf_118 ?_;simp only[vW,seval];refine z8 HC ?_;refine z8 HE ?_;trivial
theorem zkS(g:Sh.Glob)(ls:List Ln)(h0:ls≠[])(hl:ls.length≤1000)(H:∀l∈ls,zC g 64 [.agg (pvC (lnR l))] [] (.agg (lnT l)) []):
  zC g 63 [.pv (.sl 3 (z0t ls)),.pv (.v (.func (.func 64) #[] #[]))] [] (.bs 1000 0 ls.length 0) [.box (ls.map lnT).flatten]:=by
 refine zj tf_116 ?_;have d0:¬(ls.length:Int)=0:=by have:=List.length_pos_iff.2 h0;omega
 have hrl:(ls.map lnT).length=ls.length:=List.length_map _;have hzs:Stab [TV.pv (.v (.string ⟨#[]⟩)),TV.pv (.v (.slice none 0 0)),TV.pv (.v (.slice none 0 0))]:=fun c hc=>by
  simp only[List.mem_cons,List.not_mem_nil,or_false]at hc;rcases hc with rfl|rfl|rfl<;>exact .inl ⟨_,rfl⟩
 have z0:(List.replicate ls.length [TV.pv (.v (.string ⟨#[]⟩)),TV.pv (.v (.slice none 0 0)),TV.pv (.v (.slice none 0 0))]).flatten=(z2V (ls.map lnT) [TV.pv (.v (.string ⟨#[]⟩)),TV.pv (.v (.slice none 0 0)),TV.pv (.v (.slice none 0 0))] 0).flatten:=by unfold z2V;rw[hrl];simp
 have XS:=fun i=>(Stab.flat fun a (ha:a∈z2V (ls.map lnT) [TV.pv (.v (.string ⟨#[]⟩)),TV.pv (.v (.slice none 0 0)),TV.pv (.v (.slice none 0 0))] i)=>by
  rcases List.mem_append.1 ha with ha|ha
  ·exact z6x ls a (List.mem_of_mem_take ha)
  ·rw[(List.mem_replicate.1 ha).2];exact hzs)
 have X1:=fun i=>(XS i).fgt;have X2:=fun i=>(XS i).ids;have X3:=fun i=>(XS i).ren;clear XS;have hp:=fun i l (ex:ls[i]?=some l)=>zl6 (z:=[TV.pv (.v (.string ⟨#[]⟩)),TV.pv (.v (.slice none 0 0)),TV.pv (.v (.slice none 0 0))]) (z7M ls) rfl (show(ls.map lnT)[i]?=some (lnT l) by rw[List.getElem?_map,ex];rfl);have hfl:∀i,i≤ls.length→(z2V (ls.map lnT) [TV.pv (.v (.string ⟨#[]⟩)),TV.pv (.v (.slice none 0 0)),TV.pv (.v (.slice none 0 0))] i).flatten.length=ls.length*3:=fun i hi=>by rw[z8B (zdp (z7M ls) rfl),zdo (by omega),hrl]
 have hend:(z2V (ls.map lnT) [TV.pv (.v (.string ⟨#[]⟩)),TV.pv (.v (.slice none 0 0)),TV.pv (.v (.slice none 0 0))] ls.length).flatten=(ls.map lnT).flatten:=by rw[←hrl,zl5]
 rw[←hend];obtain⟨X,hX⟩:∃X:Nat→List TV,∀i,(z2V (ls.map lnT) [TV.pv (.v (.string ⟨#[]⟩)),TV.pv (.v (.slice none 0 0)),TV.pv (.v (.slice none 0 0))] i).flatten=X i:=⟨_,fun _=>rfl⟩
 simp only[hX]at z0 X1 X2 X3 hp hfl ⊢;clear hend hX;simp only[vW,seval,d0,z0,z0L,List.map_cons,List.map_nil];refine⟨⟨by omega,by unfold maxLen;omega⟩,?_⟩;refine zk (σ:={i:Nat // i≤ls.length}) (fun i=>⟨[(1,.pv (.v (.func (.func 64) #[] #[]))),(5,.bs 13 0 ls.length 0),(14,.pv (.sl 3 (z0t ls))),(15,I (ls.length:Int)),(16,I (i.1:Int))],[(13,X i.1)],[],[]⟩) (fun i=>ls.length-i.1) ⟨0,Nat.zero_le _⟩ ?_ ?_
 ·simp only[X1];exact lwA
 rintro⟨i,hi⟩;by_cases hlt:i<ls.length
 ·have d1:(i:Int)<(ls.length:Int):=by omega
  obtain⟨l,ex⟩:∃x,ls[i]?=some x:=⟨_,gE hlt⟩
  have HC:=H l (gM ex);have hp:=hp i l ex;have hfl:=hfl i hi;have w1:=wS i;have hT:lnT l=[S (str l.c.n),.pv (.sl 4 (flR l.c.fs)),tgT 8 (z0U l.hs)]:=rfl;rw[hT]at hp HC;unfold lnR pvC at HC;simp only[List.map_cons,List.map_nil]at HC;cases hcs:z0U l.hs with
  |nil=>
   rw[hcs]at hp HC;unfold tgT at hp HC;simp only[List.append_assoc,List.cons_append,List.nil_append]at hp;simp only[vW,seval,d1,z0L,z3Y,ex,lnR,hcs,X1];(with_reducible apply zr);simp only[vW,seval,X1];rfl;exact HC;rfl;simp only[vW,seval,X1];rfl;simp only[vW,seval,d1,hp,w1,X1];refine⟨by omega,zc ⟨i+1,by omega⟩ (by show ls.length-(i+1)<ls.length-i;omega) ?_⟩;apply z0e<;>simp[leL,lk,sv,Nat.beq,I,S,ES.kill,has,drp,zn,X1]
   exact hp
  |cons e r=>
   rw[hcs]at hp HC;unfold tgT at hp HC;simp only[List.append_assoc,List.cons_append,List.nil_append]at hp;simp only[vW,seval,d1,z0L,z3Y,ex,lnR,hcs,X1];(with_reducible apply zr);simp only[vW,seval,X1];rfl;exact HC;rfl;simp only[vW,seval,X1];rfl;simp only[vW,seval,d1,hp,w1,X1];refine⟨by omega,zc ⟨i+1,by omega⟩ (by show ls.length-(i+1)<ls.length-i;omega) ?_⟩;apply z0e<;>simp[leL,lk,sv,Nat.beq,I,S,ES.kill,has,drp,zn,X1]
   exact hp
 ·have d1:¬(i:Int)<(ls.length:Int):=by omega
  obtain rfl:i=ls.length:=by omega
  simp only[vW,seval,d1,X1,X2,X3]
theorem zcj(g:Sh.Glob)(ls:List Ln)(h0:ls≠[])(hn:ls.length≤1000)(hl:∀l∈ls,l.c.fs.length≤1000∧l.hs.length≤1000):zC g 34 [scT ls] [] (.agg [.bs 1000 0 ls.length 0]) [.box (ls.map lnT).flatten]:=by
 have HE:=zkS g ls h0 hn (fun l h=>ze5 g l (hl l h).1 (hl l h).2);have YS:=Stab.flat (z6x ls);have Y1:=YS.fgt;have Y2:=YS.ids;have Y3:=YS.ren;clear YS;generalize(ls.map lnT).flatten=Y at*;refine zj tf_111 ?_;unfold scT;simp only[vW,seval];refine z8 HE ?_ (hs:=by simp only[vW,seval,Y1,Y2,Y3];rfl);simp only[vW,seval,Y1,Y2,Y3]
theorem zsq{ls:List Ln}{k:Nat}{l l':Ln}{r:List TV}(hk:ls[k]?=some l)(hr:WkL r (pvC (lnR l'))):WkL ((ls.map lnT).set k r).flatten ((z0t (ls.set k l')).flatten.map TV.pv):=by
 rw[zfW];unfold z0t;rw[List.map_map];refine WkL.flat (by simp) fun i a b ha hb=> ?_;rw[List.getElem?_map]at hb;by_cases hi:k=i
 ·subst hi;have hkl:=(gJ hk).1;rw[List.getElem?_set_self (by simpa using hkl)]at ha;rw[List.getElem?_set_self hkl]at hb;cases ha;cases hb;exact hr
 ·rw[List.getElem?_set_ne hi,List.getElem?_map]at ha;rw[List.getElem?_set_ne hi]at hb;cases hx:ls[i]? with
  |none=>rw[hx]at ha;cases ha
  |some x=>rw[hx]at ha hb;cases ha;cases hb;exact zmL x
theorem zlx(ls:List Ln):∀cs∈z0t ls,cs.length=3:=fun cs h=>by
 obtain⟨l,_,rfl⟩:=List.mem_map.1 h;rfl
theorem zr3{d e W n:Nat}{es es2:List (List PV)}(h0:0<es2.length)(h1:(es.length+es2.length)*n≤140737488355328)(h2:es.length+es2.length≤maxLen):z7t d e W n (some (tgT W es)) (some es2)=some (.own d W (es++es2),.row d (e,W,es.length+es2.length)):=by
 cases es with
 |nil=>
  simp only[List.length_nil,Nat.zero_add]at h1 h2;unfold tgT;rw[e_appN1,if_pos ⟨h1,h2⟩];simp
 |cons e r=>
  unfold tgT;rw[e_appN3,if_pos ⟨rfl,h0,h1,h2⟩]
theorem zkq(m:Nat)(ls:List Ln)(h0:ls≠[])(h8:ls.length<8)(hs:z7r m ls)(he:(z5x ls).2=0)(hsm:∀l∈ls,l.c.fs.length≤1000∧l.hs.length≤1000)(c:Cls)(hc:zd c=true)(hn:z0E ls c.n=(0,false)):
  zC (glE m) 13 [scT ls,clT c] [] (.tuple [scT (ls++[⟨c,[]⟩]),I 0]) []:=by
 have hk:=z1h hc;have HC:=z4j m ls (by omega) hs;have HR:=z0k (glE m) c hk.1;have HN:=z67 (glE m) ls c.n (by omega);have HS:=zcj (glE m) ls h0 (by omega) hsm;have HF:=z3X (glE m) c (by omega);rw[hc]at HR;rw[he]at HC;rw[hn]at HN;have d8:¬(8:Int)≤(ls.length:Int):=by omega
 have e1:z0t (ls++[⟨c,[]⟩])=z0t ls++[lnR ⟨c,[]⟩]:=by unfold z0t;rw[List.map_append];rfl
 unfold scT;rw[e1];refine SCalls.out (y:=.tuple [.agg [.pv (.sl 3 (z0t ls++[zjf c]))],I 0]) ?_ (zpu (zfY (z0t ls) c));have hw:=zqR ls;have YS:=Stab.flat (z6x ls);have Y1:=YS.fgt;have Y2:=YS.ids;have Y3:=YS.ren;clear YS;generalize(ls.map lnT).flatten=Y at*;refine z23 ze tf_168 rfl ?_
 conv in SFunc.code _=>reduce
 unfold scT clT B at*;refine zE ze ?_;simp only[vW,seval];refine zE ze ?_;simp only[vW,seval];refine z8 HC ?_;refine zE ze ?_;simp only[vW,seval];refine z8 HR ?_;refine zE ze ?_;simp only[vW,seval];refine z8 HN ?_;simp only[vW,seval,z0L,d8,false_imp_iff,true_and,forall_const];refine zE ze ?_;simp only[vW,seval];refine z8 HS ?_ (hs:=by simp only[vW,seval,Y1,Y2,Y3];rfl);refine z2t (zc2 (k:=2160) (ds:=(z0t ls).flatten.map TV.pv) rfl hw.1 hw.2) ?_;refine z2t (zpT (x:=10) (j:=0) (d:=2160) (W:=3) (es:=z0t ls) rfl (zlx ls) (by decide) rfl (by rw[z0L];rfl)) ?_;refine zE ze ?_;simp only[vW,seval];right;refine z8 HF ?_;refine⟨by rw[z0L];unfold maxLen;omega,?_⟩;refine z2t (zqk (x:=10) (j:=0) (d:=47) (W:=3) rfl rfl) ?_;refine z26 ze ?_;simp only[vW,seval];rfl
theorem zid(m:Nat)(ls:List Ln)(hl:ls.length≤1000)(hs:z7r m ls)(he:(z5x ls).2=0)(hsm:∀l∈ls,l.c.fs.length≤1000∧l.hs.length≤1000){k:Nat}{l:Ln}(hk:ls[k]?=some l)(hlo:LnOk m l)(h12:l.hs.length<12)(h:Chg)(hh:ChOk m h)(ha:(z0h (zp l l.hs.length).1 h).2=0):
  zC (glE m) 10 [scT ls,I (k:Int),chT h] [] (.tuple [scT (ls.set k ⟨l.c,l.hs++[h]⟩),I 0]) []:=by
 have hkl:=(gJ hk).1;have HL:=zcM m ls hl hs he hk;have HM:=zcO m l hlo l.hs.length (Nat.le_refl _);have hrc:=z1h (z1O (z0r hlo.r (Nat.le_refl _)));have HA:=z61 m (zp l l.hs.length).1 h hrc.1 hh (by omega);rw[show z0h (zp l l.hs.length).1 h=((z0h (zp l l.hs.length).1 h).1,0) from by rw[←ha]]at HA;have HS:=zcj (glE m) ls (by intro e;rw[e]at hkl;simp at hkl) hl hsm;generalize(z0h (zp l l.hs.length).1 h).1=d at*;generalize(zp l l.hs.length).1=c0 at*;have d0:¬(12:Int)≤(l.hs.length:Int):=by omega
 have d1:(k:Int)<(ls.length:Int):=by omega
 have hel:(ls.map lnT)[k]?=some (lnT l):=by rw[List.getElem?_map,hk];rfl
 have eg:((ls.map lnT).flatten)[k*3+2]?=some (tgT 8 (z0U l.hs)):=z7F (z7M ls) hel rfl;have hfl:(ls.map lnT).flatten.length=ls.length*3:=by rw[z8B (z7M ls),List.length_map]
 have hY:∀o,List.take (k*3+2) (ls.map lnT).flatten++[o]++List.drop (k*3+2+1) (ls.map lnT).flatten=((ls.map lnT).set k [S (str l.c.n),.pv (.sl 4 (flR l.c.fs)),o]).flatten:=fun o=>by
  rw[←z7j (x:=[S (str l.c.n),.pv (.sl 4 (flR l.c.fs)),o]) rfl (z7M ls) (by rw[List.length_map];exact hkl),List.take_add_one,List.take_add_one];have g0:=z7F (z7M ls) hel (j:=0) rfl;have g1:=z7F (z7M ls) hel (j:=1) rfl;rw[Nat.add_zero]at g0;rw[g0,g1];simp
 have hst:WkL (List.take (k*3+2) (ls.map lnT).flatten++[.own 55 8 (z0U l.hs++[chR h])]++List.drop (k*3+2+1) (ls.map lnT).flatten) ((z0t (ls.set k ⟨l.c,l.hs++[h]⟩)).flatten.map TV.pv):=by
  rw[hY];refine zsq hk ⟨rfl,fun j c d hc hd=> ?_⟩
  match j with
  |0=>cases hc;cases hd;exact .refl _
  |1=>cases hc;cases hd;exact .refl _
  |2=>
   cases hc;cases hd;have e:z0U (l.hs++[h])=z0U l.hs++[chR h]:=by unfold z0U;rw[List.map_append];rfl
   show Wk _ (.pv (.sl 8 (z0U (l.hs++[h]))));rw[e];exact zdV (PWk.refl _)
  |j+3=>cases hc
 clear hY;unfold chR at hst;have YS:=Stab.flat (z6x ls);have Y1:=YS.fgt;have Y2:=YS.ids;have Y3:=YS.ren;clear YS;generalize(ls.map lnT).flatten=Y at*;refine z23 ze tf_176 rfl ?_
 conv in SFunc.code _=>reduce
 unfold scT lnC z60 clT chT at*;refine zE ze ?_;simp only[vW,seval];refine zE ze ?_;simp only[vW,seval];refine z8 HL ?_;refine zE ze ?_;simp only[vW,seval];refine zE ze ?_;simp only[vW,seval,z0K,d0];refine zE ze ?_;simp only[vW,seval,z0K,d0];refine z7 HM ?_;simp only[vW,seval];refine z8 HA ?_;refine zE ze ?_;simp only[vW,seval];refine z8 HS ?_ (hs:=by simp only[vW,seval,Y1,Y2,Y3];rfl);refine zE ze ?_;simp only[vW,seval,d1,eg,hfl,Y1];rw[zr3 (es2:=[[_,_,_,_,_,_,_,_]]) (Nat.succ_pos 0) (by rw[z0K];show(_+1)*104≤_;omega) (by rw[z0K];show _+1≤maxLen;unfold maxLen;omega)];simp only[vW,seval,d1,hfl,Y1];right;refine⟨by omega,?_⟩;refine z2t (zc2 (k:=2172) (ds:=(z0t (ls.set k ⟨l.c,l.hs++[h]⟩)).flatten.map TV.pv) rfl hst.1 hst.2) ?_;refine z2t (zrs (x:=12) (j:=0) (d:=2172) (W:=3) (c:=0) (es:=z0t (ls.set k ⟨l.c,l.hs++[h]⟩)) rfl (zlx _) (by decide) rfl (by rw[z0L,List.length_set];rfl)) ?_;refine z26 ze ?_;simp only[vW,seval]
section
variable{m:Nat}{ls:List Ln}{k:Nat}{l:Ln}(hl:ls.length≤1000)(hs:z7r m ls)(he:(z5x ls).2=0)(hk:ls[k]?=some l)
include hl hs he hk
theorem zoL(hlo:LnOk m l)(h12:l.hs.length<12)(h:Chg)(hh:ChOk m h)(ha:(z0h (zp l l.hs.length).1 h).2≠0):zC (glE m) 10 [scT ls,I (k:Int),chT h] [] (.tuple [.agg [zn],I (z0h (zp l l.hs.length).1 h).2]) []:=by
 have HL:=zcM m ls hl hs he hk;have HM:=zcO m l hlo l.hs.length (Nat.le_refl _);have hrc:=z1h (z1O (z0r hlo.r (Nat.le_refl _)));have HA:=z61 m (zp l l.hs.length).1 h hrc.1 hh (by omega);generalize z0h (zp l l.hs.length).1 h=r at*;generalize(zp l l.hs.length).1=c0 at*;have d0:¬(12:Int)≤(l.hs.length:Int):=by omega
 refine za tf_176 ?_;unfold scT lnC z60 clT chT zn at*;simp only[vW,seval];refine z8 HL ?_;simp only[vW,seval,z0K,d0,false_imp_iff,and_true,true_and,forall_const];refine z7 HM ?_;simp only[vW,seval];refine z8 HA ?_;simp only[vW,seval,ha,false_imp_iff,and_true,true_and,forall_const]
end
end
section
open Go.Sh.Cd7
theorem ztx(a b:zB):(str a==str b)=(a==b):=by
 show((str a).data==(str b).data)=(a==b)
 rw[Bool.eq_iff_iff,beq_iff_eq,beq_iff_eq];constructor
 ·intro h;have:=congrArg Array.toList h;simpa [str]using this
 ·intro h;rw[h]
theorem ztk(x y:Fld):((str x.n==str y.n)&&(z0g ⟨x.t.k,x.t.o⟩ ⟨y.t.k,y.t.o⟩&&((x.ix==y.ix)&&true)))=z9u x y:=by
 rw[ztx];unfold z9u z0g;simp[Bool.and_assoc]
theorem zbE:∀{a b:List Fld},z1T a b=true→a.length=b.length
 |[],[],_=>rfl
 |[],_::_,h=>by simp[z1T]at h
 |_::_,[],h=>by simp[z1T]at h
 |x::a,y::b,h=>by
  rw[z1T,Bool.and_eq_true]at h;rw[List.length_cons,List.length_cons,zbE h.2]
theorem zrk(g:Sh.Glob)(a b:List Fld)(hl:a.length≤4611686018427387904)(hl':b.length≤4611686018427387904):zC g 39 [.pv (.sl 4 (flR a)),.pv (.sl 4 (flR b))] [] (B (z1T a b)) []:=by
 obtain⟨R,hR⟩:∃R,z1T a b=R:=⟨_,rfl⟩
 rw[hR];refine za Cd4.tf_189 ?_;unfold B;by_cases he:a.length=b.length
 ·have d0:(a.length:Int)=(b.length:Int):=by omega
  simp only[vW,seval,d0,clV];refine zk (σ:={i:Nat // i≤a.length∧z1T (a.drop i) (b.drop i)=R}) (fun i=>⟨[(0,.pv (.sl 4 (flR a))),(1,.pv (.sl 4 (flR b))),(12,I (a.length:Int)),(13,I (i.1:Int))],[],[],[]⟩) (fun i=>a.length-i.1) ⟨0,Nat.zero_le _,by simpa using hR⟩ ?_ ?_
  ·apply z0e<;>simp[leL,lk,sv,Nat.beq,I,S,ES.kill,has,drp,zn,d0]
  rintro⟨i,hi,hT⟩;by_cases hlt:i<a.length
  ·have d1:(i:Int)<(a.length:Int):=by omega
   have hlt2:i<b.length:=by omega
   obtain⟨x,ex⟩:∃x,a[i]?=some x:=⟨_,gE hlt⟩
   obtain⟨y,ey⟩:∃y,b[i]?=some y:=⟨_,gE hlt2⟩
   have w1:=wS i;have ha:a.drop i=x::a.drop (i+1):=by rw[List.drop_eq_getElem_cons hlt];congr 1;rw[gE hlt]at ex;exact Option.some.inj ex
   have hb:b.drop i=y::b.drop (i+1):=by rw[List.drop_eq_getElem_cons hlt2];congr 1;rw[gE hlt2]at ey;exact Option.some.inj ey
   rw[ha,hb,z1T]at hT;have hf:=ztk x y;have hn:=zrN (str x.n) (str y.n) x.t.k y.t.k x.t.o y.t.o x.ix y.ix;rw[hf]at hn;cases hx:z9u x y
   ·rw[hx]at hT hn;simp only[Bool.false_and]at hT;subst hT;simp only[vW,seval,d1,ex,ey,hn,clV]
   ·rw[hx]at hT hn;rw[Bool.true_and]at hT;simp only[vW,seval,d1,ex,ey,hn,w1,clV];refine zc ⟨i+1,hlt,hT⟩ (by show a.length-(i+1)<a.length-i;omega) ?_;exact lwA
  have d1:¬(i:Int)<(a.length:Int):=by omega
  have ha:a.drop i=[]:=List.drop_eq_nil_of_le (by omega);have hb:b.drop i=[]:=List.drop_eq_nil_of_le (by omega);rw[ha,hb,z1T]at hT;subst hT;simp only[vW,seval,d1]
 ·have d0:¬(a.length:Int)=(b.length:Int):=by omega
  have:R=false:=by
   cases R
   ·rfl
   ·exact absurd (zbE hR) he
  subst this;simp only[vW,seval,d0,clV]
theorem zeU(g:Sh.Glob)(a b:Cls)(hl:a.fs.length≤4611686018427387904)(hl':b.fs.length≤4611686018427387904):zC g 16 [clT a,clT b] [] (B (z4s a b)) []:=by
 have HE:=zrk g a.fs b.fs hl hl';unfold z4s;refine za Cd4.tf_60 ?_;unfold clT B at*;cases hn:(a.n==b.n)
 ·simp only[vW,seval,hn]
 ·simp only[vW,seval,hn];exact zf HE
theorem zhe(g:Sh.Glob)(l:List V)(hf:∀v∈l,VFew v)(hl:l.length≤4611686018427387904):zC g 24 [.pv (.sl 4 (V.rows l)),.pv (.sl 4 (V.rows l))] [] (B true) []:=by
 refine za Cd7.tf_162 ?_;unfold B;simp only[vW,seval];refine zk (σ:={i:Nat // i≤l.length}) (fun i=>⟨[(0,.pv (.sl 4 (V.rows l))),(1,.pv (.sl 4 (V.rows l))),(5,I (i.1:Int))],[],[],[]⟩) (fun i=>l.length-i.1) ⟨0,Nat.zero_le _⟩ ?_ ?_
 ·exact lwA
 rintro⟨i,hi⟩;by_cases hlt:i<l.length
 ·have d1:(i:Int)<(l.length:Int):=by omega
  obtain⟨v,ev⟩:∃v,l[i]?=some v:=⟨_,gE hlt⟩
  have w1:=wS i;have HS:=zjO g v v (hf v (gM ev)).small;rw[zkK]at HS;simp only[vW,seval,d1,ev];refine z7 HS ?_;simp only[vW,seval,w1];refine zc ⟨i+1,hlt⟩ (by show l.length-(i+1)<l.length-i;omega) ?_;exact lwA
 have d1:¬(i:Int)<(l.length:Int):=by omega
 simp only[vW,seval,d1]
end
end Go.Proofs.YtpmlapgbmgbilaaGreatDoor
end

section
namespace Go.Sh.Cd11
open Go Go.Sh
abbrev gQ(a:GA):Prop:=gT Go.Proofs.Tryz.prog a
theorem gK{a:GA}(h:gQ a:=by unfold gQ gT;kernel_rfl):gQ a:=h
theorem tf_188:gQ ⟨50,32,[(29,1)],[],[[6],[10013],[1000002,14],[0,6,14],[],[18021],[7,22025],[8009,26029],[1002,15017,30],[6,30031],[1002,15017]],[.tmp 6],false⟩:=gK
theorem tf_187:gQ ⟨52,32,[(29,1)],[],[[6],[10013],[1000002,14],[0,6,14],[],[18021],[7,22025],[8009,26029],[1002,15017,30],[6,30031],[1002,15017]],[.tmp 6],false⟩:=gK
noncomputable def funcs:Nat→Option SFunc
 |_=>none
end Go.Sh.Cd11
end

section
namespace Go.Proofs.YtpmlapgbmgbilaaGreatDoor
open Go Go.RowKit Go.Mor Go.Sh Go.Sh.Cd1 Go.Sh.Cd7
section
open Go.Sh.Cd10 Go.Sh.Cd11
def z1Z{α:Type}(p:α→α→Bool):List α→List α→Bool
 |[],[]=>true
 |x::l,y::m=>p x y&&z1Z p l m
 |_,_=>false
theorem z9h{α:Type}{p:α→α→Bool}:∀{a b:List α},a.length≠b.length→z1Z p a b=false
 |[],[],h=>absurd rfl h
 |[],_::_,_=>rfl
 |_::_,[],_=>rfl
 |x::l,y::m,h=>by
  unfold z1Z;rw[z9h (a:=l) (b:=m) (fun e=>h (by simp[e])),Bool.and_false]
theorem zcg{α:Type}{p:α→α→Bool}{a b:List α}{i:Nat}{x y:α}(hx:a[i]?=some x)(hy:b[i]?=some y):z1Z p (a.drop i) (b.drop i)=(p x y&&z1Z p (a.drop (i+1)) (b.drop (i+1))):=by
 obtain⟨h1,rfl⟩:=gJ hx;obtain⟨h2,rfl⟩:=gJ hy;rw[List.drop_eq_getElem_cons h1,List.drop_eq_getElem_cons h2];rfl
theorem z87{α:Type}{p:α→α→Bool}:∀{a:List α},(∀x∈a,p x x=true)→z1Z p a a=true
 |[],_=>rfl
 |x::l,h=>by
  unfold z1Z;rw[h x (List.mem_cons_self ..),z87 fun y hy=>h y (List.mem_cons_of_mem _ hy)];rfl
theorem zpP(g:Sh.Glob)(a b:List Chg)(ha:a.length≤1000):zC g 52 [.pv (.sl 8 (z0U a)),.pv (.sl 8 (z0U b)),.pv (.v (.func (.func 53) #[] #[]))] [] (B (z1Z z0j a b)) []:=by
 refine za tf_187 ?_;obtain⟨R,hR⟩:∃R,z1Z z0j a b=R:=⟨_,rfl⟩
 rw[hR];unfold B;by_cases hlen:a.length=b.length
 ·have d0:(a.length:Int)=(b.length:Int):=by omega
  simp only[vW,seval,d0,z0K];refine zk (σ:={i:Nat // i≤a.length∧z1Z z0j (a.drop i) (b.drop i)=R}) (fun i=>⟨[(1,.pv (.sl 8 (z0U b))),(2,.pv (.v (.func (.func 53) #[] #[]))),(15,.pv (.sl 8 (z0U a))),(16,I (b.length:Int)),(17,I (i.1:Int))],[],[],[]⟩) (fun i=>a.length-i.1) ⟨0,Nat.zero_le _,hR⟩ ?_ ?_
  ·exact lwA
  rintro⟨i,hi,hT⟩;by_cases hlt:i<a.length
  ·have d1:(i:Int)<(b.length:Int):=by omega
   obtain⟨x,ex⟩:∃x,a[i]?=some x:=⟨_,gE hlt⟩
   obtain⟨y,ey⟩:∃y,b[i]?=some y:=⟨_,gE (by omega)⟩
   have HS:=zk5 g x y;have w1:=wS i;rw[zcg ex ey]at hT;unfold B at HS;unfold chT at HS;simp only[vW,seval,d1,z4x,ex,ey,chR];(with_reducible apply zr);exact kv;exact HS;rfl;exact kv;cases hp:z0j x y
   ·simp only[vW,seval];rw[←hT,hp];rfl
   ·simp only[vW,seval,w1];rw[hp,Bool.true_and]at hT;exact zc ⟨i+1,by omega,hT⟩ (by show a.length-(i+1)<a.length-i;omega) lwA
  ·have d1:¬(i:Int)<(b.length:Int):=by omega
   rw[List.drop_eq_nil_of_le (by omega),List.drop_eq_nil_of_le (by omega)]at hT;simp only[vW,seval,d1];rw[←hT];rfl
 ·have d0:¬(a.length:Int)=(b.length:Int):=by omega
  simp only[vW,seval,d0,z0K];rw[←hR,z9h hlen]
def z39(a b:Ln):Bool:=z4s a.c b.c&&z1Z z0j a.hs b.hs
theorem zov(g:Sh.Glob)(a b:Ln)(h1:a.c.fs.length≤1000)(h2:b.c.fs.length≤1000)(h3:a.hs.length≤1000):zC g 51 [.agg (lnC a),.agg (lnC b)] [] (B (z39 a b)) []:=by
 have HC:=zeU g a.c b.c (by omega) (by omega);have HE:=zpP g a.hs b.hs h3;refine za tf_175 ?_;unfold z39;unfold lnC clT B at*;simp only[vW,seval];refine z8 HC ?_;cases hc:z4s a.c b.c
 ·simp only[vW,seval]
 ·simp only[vW,seval];refine z8 HE ?_;trivial
theorem zpQ(g:Sh.Glob)(a b:List Ln)(ha:a.length≤1000)(h1:∀l∈a,l.c.fs.length≤1000∧l.hs.length≤1000)(h2:∀l∈b,l.c.fs.length≤1000):zC g 50 [.pv (.sl 3 (z0t a)),.pv (.sl 3 (z0t b)),.pv (.v (.func (.func 51) #[] #[]))] [] (B (z1Z z39 a b)) []:=by
 refine za tf_188 ?_;obtain⟨R,hR⟩:∃R,z1Z z39 a b=R:=⟨_,rfl⟩
 rw[hR];unfold B;by_cases hlen:a.length=b.length
 ·have d0:(a.length:Int)=(b.length:Int):=by omega
  simp only[vW,seval,d0,z0L];refine zk (σ:={i:Nat // i≤a.length∧z1Z z39 (a.drop i) (b.drop i)=R}) (fun i=>⟨[(1,.pv (.sl 3 (z0t b))),(2,.pv (.v (.func (.func 51) #[] #[]))),(15,.pv (.sl 3 (z0t a))),(16,I (b.length:Int)),(17,I (i.1:Int))],[],[],[]⟩) (fun i=>a.length-i.1) ⟨0,Nat.zero_le _,hR⟩ ?_ ?_
  ·exact lwA
  rintro⟨i,hi,hT⟩;by_cases hlt:i<a.length
  ·have d1:(i:Int)<(b.length:Int):=by omega
   obtain⟨x,ex⟩:∃x,a[i]?=some x:=⟨_,gE hlt⟩
   obtain⟨y,ey⟩:∃y,b[i]?=some y:=⟨_,gE (by omega)⟩
   have HS:=zov g x y (h1 x (gM ex)).1 (h2 y (gM ey)) (h1 x (gM ex)).2;have w1:=wS i;rw[zcg ex ey]at hT;unfold B at HS;unfold lnC at HS;simp only[vW,seval,d1,z3Y,ex,ey,lnR];(with_reducible apply zr);exact kv;exact HS;rfl;exact kv;cases hp:z39 x y
   ·simp only[vW,seval];rw[←hT,hp];rfl
   ·simp only[vW,seval,w1];rw[hp,Bool.true_and]at hT;exact zc ⟨i+1,by omega,hT⟩ (by show a.length-(i+1)<a.length-i;omega) lwA
  ·have d1:¬(i:Int)<(b.length:Int):=by omega
   rw[List.drop_eq_nil_of_le (by omega),List.drop_eq_nil_of_le (by omega)]at hT;simp only[vW,seval,d1];rw[←hT];rfl
 ·have d0:¬(a.length:Int)=(b.length:Int):=by omega
  simp only[vW,seval,d0,z0L];rw[←hR,z9h hlen]
theorem zb7(g:Sh.Glob)(a b:List Ln)(ha:a.length≤1000)(h1:∀l∈a,l.c.fs.length≤1000∧l.hs.length≤1000)(h2:∀l∈b,l.c.fs.length≤1000):zC g 22 [scT a,scT b] [] (B (z1Z z39 a b)) []:=by
 have HE:=zpQ g a b ha h1 h2;refine za tf_174 ?_;unfold scT B at*;simp only[vW,seval];exact zf HE
end
theorem ztc{W:Nat}{es ds:List (List PV)}(hl:es.length=ds.length)(h:∀(i:Nat) cs ds',es[i]?=some cs→ds[i]?=some ds'→cs.length=ds'.length∧∀(j:Nat) c d,cs[j]?=some c→ds'[j]?=some d→∀w K v,Go.Sh.RelV w K c v→Go.Sh.RelV w K d v):Wk (.pv (.sl W es)) (.pv (.sl W ds)):=by
 intro w E r v hr;have get:∀(i j:Nat) ds' d,ds[i]?=some ds'→ds'[j]?=some d→∃cs c,es[i]?=some cs∧cs[j]?=some c∧∀w K v,Go.Sh.RelV w K c v→Go.Sh.RelV w K d v:=by
  intro i j ds' d h1 h2;have hi:i<es.length:=by
   rcases Nat.lt_or_ge i ds.length with h|h
   ·omega
   ·rw[List.getElem?_eq_none h]at h1;cases h1
  have hq:=h i _ ds' (gE hi) h1;have hj:j<es[i].length:=by
   rcases Nat.lt_or_ge j ds'.length with h|h
   ·have:=hq.1;omega
   ·rw[List.getElem?_eq_none h]at h2;cases h2
  exact⟨_,_,gE hi,gE hj,hq.2 j _ d (gE hj) h2⟩
 cases hr with
 |pv hr=>
  cases hr with
  |sl W es b off cap p f hp hcap hmax hW hc hs=>
   refine .pv ?_;rw[hl];refine .sl W ds b off cap p f (fun hne=>hp (fun e=>hne ?_)) (by omega) hmax ?_ ?_ ?_
   ·rw[e]at hl;exact List.eq_nil_of_length_eq_zero hl.symm
   ·intro ds' hm;obtain⟨i,hi,rfl⟩:=List.getElem_of_mem hm;have hi2:i<es.length:=by omega
    rw[←(h i _ _ (gE hi2) (gE hi)).1];exact hW _ (List.getElem_mem hi2)
   ·intro i j ds' d h1 h2;obtain⟨cs,c,g1,g2,_⟩:=get i j ds' d h1 h2;exact hc i j cs c g1 g2
   ·intro i j ds' d h1 h2;obtain⟨cs,c,g1,g2,g3⟩:=get i j ds' d h1 h2;exact g3 _ _ _ (hs i j cs c g1 g2)
def rvN(x:V):List PV:=[.v (.int .i64 x.k),.v (.int .i64 x.n),.v (.string (str x.s)),.v (.slice none 0 0)]
theorem zil{l:List V}(h:∀v∈l,v.l=[]):Wk (.pv (.sl 4 (l.map rvN))) (.pv (.sl 4 (V.rows l))):=by
 refine ztc (by rw[z1e];simp) (fun i cs ds h1 h2=> ?_);rw[z1e]at h2;rw[List.getElem?_map]at h1 h2;cases hi:l[i]? with
 |none=>rw[hi]at h1;cases h1
 |some x=>
  rw[hi]at h1 h2;cases h1;cases h2;rw[z2l];refine⟨rfl,fun j c d hc hd w K v hv=> ?_⟩;have hx:=h x (gM hi);rw[hx]at hd
  match j with
  |0=>cases hc;cases hd;exact hv
  |1=>cases hc;cases hd;exact hv
  |2=>cases hc;cases hd;exact hv
  |3=>
   cases hc;cases hd;cases hv;exact .sl 4 [] 0 0 0 none (fun _ _=>undef) (by simp) (by simp) (by simp) (by simp) (by simp) (by simp)
  |j+4=>cases hc
def hT:Chg:=⟨4,[110],[],[],⟨2,0⟩,[116,101,120,116,40,110,41],[]⟩
def tx(s:zB):V:=.mk 2 0 s []
theorem ztj{x:V}(h:x.l=[])(hs:x.s.length≤60):VFew x∧VOk x:=⟨zf6 h,by unfold VOk z25;rw[h];exact⟨by omega,by simp⟩⟩
section
open Go.Sh.Cd10
def c8:Cls:=⟨[99],[⟨[97],⟨1,0⟩,false⟩]⟩
def h8:Chg:=⟨1,[],[98],[],⟨1,0⟩,[97,32,42,32,50],[]⟩
def d8:Cls:=⟨[99],[⟨[97],⟨1,0⟩,false⟩,⟨[98],⟨1,0⟩,false⟩]⟩
def l8:Ln:=⟨c8,[h8]⟩
def n8(n:Int):V:=.mk 1 n [] []
theorem zeK:zd c8=true:=by kernel_rfl
theorem zrE:zY l8=true:=by kernel_rfl
theorem ztn:zp l8 1=(d8,0):=by kernel_rfl
theorem zrC:zp l8 0=(c8,0):=by kernel_rfl
theorem zto:z8s l8 0 [n8 3] 1=[n8 3,n8 6]:=by kernel_rfl
theorem zpg(m:Nat):ChOk m h8:=⟨by unfold z0B h8;decide,by unfold z0B h8;decide,by unfold z0B h8;decide,za6 m (r:=rdV h8.x) (by kernel_rfl) (by unfold h8;decide),zgs m⟩
theorem zca{l:Ln}(h:zY l=true):RightS [l]:=⟨by simp,fun x hx=>by simp at hx;subst hx;exact h,fun i j a b hi hj _=>by
 have h1:=(gJ hi).1;have h2:=(gJ hj).1;simp at h1 h2;omega⟩
theorem l8_s:RightS [l8]:=zca zrE
theorem zrB:zY ⟨c8,[]⟩=true:=by kernel_rfl
theorem zer(m:Nat):LnOk m l8:=⟨zrE,fun x hx=>by unfold l8 at hx;simp at hx;subst hx;exact zpg m⟩
theorem znT(m:Nat):z7r m [l8]:=fun l hl=>by
 simp at hl;subst hl;exact⟨(z1h zeK).1,(zer m).h⟩
theorem zrD:FitC (zp l8 0).1 [n8 3]:=by
 rw[zrC];refine⟨zeK,rfl,fun i f v hf hv=> ?_⟩
 match i with
 |0=>cases hf;cases hv;show _=true;kernel_rfl
 |i+1=>cases hv
theorem zd5(m:Nat)(ls:List Ln)(hl:ls.length≤1000)(hs:z7r m ls)(he:(z5x ls).2=0)(c:Cls)(hc:zd c=true){k:Nat}(hn:z0E ls c.n=(k,true)):zC (glE m) 13 [scT ls,clT c] [] (.tuple [.agg [zn],I 80]) []:=by
 have HC:=z4j m ls hl hs;have HR:=z0k (glE m) c (z1h hc).1;have HN:=z67 (glE m) ls c.n hl;rw[he]at HC;rw[hc]at HR;rw[hn]at HN;refine za tf_168 ?_;unfold scT clT B zn at*;simp only[vW,seval];refine z8 HC ?_;refine z8 HR ?_;refine z8 HN ?_;simp only[vW,seval,false_imp_iff,and_true,true_and,forall_const]
theorem zqS:Wk (.agg [zn]) (scT []):=z6l rfl fun j a b ha hb=>by
 match j with
 |0=>cases ha;cases hb;exact z2u 3
 |j+1=>cases ha
theorem last_bad'(m:Nat){ls:List Ln}{n e:Int}(he:e≠0)(HL:zC (glE m) 31 [scT ls,I n] [] (zfE e) []):zC (glE m) 11 [scT ls,I n] [] (.tuple [I 0,I e]) []:=znU he HL
theorem zmX(m:Nat):zC (glE m) 5 [] [] (B true) []:=by
 have HL:zC (glE m) 31 [scT [l8],I 0] [] (.tuple [.agg (lnC l8),I 0]) []:=zcM m [l8] (by decide) (znT m) (by rw[l8_s.check]) (k:=0) rfl;have A1:zC (glE m) 13 [.agg [zn],clT c8] [] (.tuple [scT [⟨c8,[]⟩],I 0]) []:=(zhl m c8 zeK).inp rfl (fun j c d hc hd=>by
  match j with
  |0=>cases hc;cases hd;exact zqS
  |1=>cases hc;cases hd;exact .refl _
  |j+2=>cases hc)
 have T1:=zid m [⟨c8,[]⟩] (by decide) (fun l hl=>by simp at hl;subst hl;exact⟨(z1h zeK).1,fun x hx=>by cases hx⟩) (by rw[(zca zrB).check]) (fun l hl=>by simp at hl;subst hl;exact⟨by decide,by decide⟩) (k:=0) rfl ⟨zrB,fun x hx=>by cases hx⟩ (by decide) h8 (zpg m) (by kernel_rfl);have V1:=zmT (zer m) (fun⟨x,hx,hk⟩=>by unfold l8 at hx;simp at hx;subst hx;exact absurd hk (by decide)) HL (fr:=0) (tt:=1) (Nat.zero_le _) (Nat.le_refl _) [n8 3] zrD;rw[show 1-0=1 from rfl,zto]at V1;have V1':zC (glE m) 23 [scT [l8],I 0,I 0,I 1,.pv (.sl 4 ([n8 3].map rvN))] [] (.tuple [.pv (.sl 4 (V.rows [n8 3,n8 6])),I 0]) []:=V1.inp rfl (fun j c d hc hd=>by
  match j with
  |0=>cases hc;cases hd;exact .refl _
  |1=>cases hc;cases hd;exact .refl _
  |2=>cases hc;cases hd;exact .refl _
  |3=>cases hc;cases hd;exact .refl _
  |4=>cases hc;cases hd;exact zil (by intro v hv;simp at hv;subst hv;rfl)
  |j+5=>cases hc)
 have P0:zC (glE m) 15 [scT [l8],I 0,I 0] [] (.tuple [clT c8,I 0]) []:=by
  have:=zp0 (zer m) HL (v:=0) (Nat.zero_le _);rw[zrC]at this;exact this
 have P1:zC (glE m) 15 [scT [l8],I 0,I 1] [] (.tuple [clT d8,I 0]) []:=by
  have:=zp0 (zer m) HL (v:=1) (Nat.le_refl _);rw[ztn]at this;exact this
 have P2:=zr4 HL 2 (.inr (by decide));have A2:=zd5 m [l8] (by decide) (znT m) (by rw[l8_s.check]) c8 zeK (l8_s.find (k:=0) (x:=l8) rfl);have L0:zC (glE m) 11 [scT [l8],I 0] [] (.tuple [I 1,I 0]) []:=zq5 HL;have F0:zC (glE m) 14 [scT [l8],S (str [99])] [] (.tuple [I 0,B true]) []:=by
  have:=z67 (glE m) [l8] [99] (by decide);rw[show z0E [l8] [99]=(0,true) from l8_s.find (k:=0) (x:=l8) rfl]at this;exact this
 have L1:=last_bad' m (by decide) (znX m [l8] (by decide) (znT m) 1 (by rw[l8_s.check]) (.inr (by decide)));have V2:=zkx HL 1 0 (.inr (.inr (by decide))) zn;have SV:=zhe (glE m) [n8 3,n8 6] (by intro v hv;simp at hv;rcases hv with rfl|rfl<;>exact(ztj rfl (by decide)).1) (by decide);have SV':zC (glE m) 24 [.pv (.sl 4 (V.rows [n8 3,n8 6])),.pv (.sl 4 ([n8 3,n8 6].map rvN))] [] (B true) []:=SV.inp rfl (fun j c d hc hd=>by
  match j with
  |0=>cases hc;cases hd;exact .refl _
  |1=>cases hc;cases hd;exact zil (by intro v hv;simp at hv;rcases hv with rfl|rfl<;>rfl)
  |j+2=>cases hc)
 have S1:=zb7 (glE m) [l8] [l8] (by decide) (by intro l hl;simp at hl;subst hl;exact⟨by decide,by decide⟩) (by intro l hl;simp at hl;subst hl;decide);rw[show z1Z z39 [l8] [l8]=true by kernel_rfl]at S1;have S2:=zb7 (glE m) [⟨c8,[]⟩] [l8] (by decide) (by intro l hl;simp at hl;subst hl;exact⟨by decide,by decide⟩) (by intro l hl;simp at hl;subst hl;decide);rw[show z1Z z39 [⟨c8,[]⟩] [l8]=false by kernel_rfl]at S2;have T1:zC (glE m) 10 [scT [⟨c8,[]⟩],I 0,chT h8] [] (.tuple [scT [l8],I 0]) []:=T1;clear V1 SV;generalize V.rows [n8 3,n8 6]=r1 at*;unfold scT at*;generalize z0t [l8]=r8 at*;generalize z0t [⟨c8,[]⟩]=r0 at*;unfold clT chT flR c8 d8 h8 n8 rvN zn B at*;simp only[List.map_cons,List.map_nil]at*;refine z0u tf_132 ?_;refine z8 A1 ?_;refine z8 T1 ?_;refine z8 V1' ?_;refine z8 P0 ?_;refine z8 P1 ?_;refine z8 P2 ?_;refine z8 A2 ?_;refine z8 L0 ?_;refine z8 F0 ?_;refine z8 L1 ?_;refine z8 V2 ?_;refine z8 SV' ?_;refine z8 S1 ?_;exact zf S2
theorem zpH(m:Nat){h:Chg}(hi:ChRd h):ChOk m h:=by
 have key:∀s,zcy s→TxOk m s:=fun s hs=>by
  rcases hs with rfl|⟨h2,r,hr⟩
  ·exact zgs m
  ·exact za6 m hr (by omega)
 have sh:∀s:zB,s.length≤20→z0B s:=fun s h=>by unfold z0B;omega
 exact⟨sh _ hi.f,sh _ hi.n,sh _ hi.m,key _ hi.x,key _ hi.o⟩
theorem znI(m:Nat){l:Ln}(h:GoodL l):LnOk m l:=⟨h.r,fun x hx=>zpH m (h.h x hx)⟩
end
section
open Go.Sh.Cd10
structure OkS(m:Nat)(s:List Ln):Prop where
 r:RightS s
 c:∀l∈s,∀h∈l.hs,ChOk m h
theorem OkS.ln{m:Nat}{s:List Ln}(h:OkS m s){l:Ln}(hl:l∈s):LnOk m l:=⟨h.r.line l hl,h.c l hl⟩
theorem OkS.ls{m:Nat}{s:List Ln}(h:OkS m s):z7r m s:=fun l hl=>⟨(z1h (h.ln hl).c).1,h.c l hl⟩
theorem OkS.few{m:Nat}{s:List Ln}(h:OkS m s):∀l∈s,l.c.fs.length≤1000∧l.hs.length≤1000:=fun l hl=>by
 have h1:=(z1h (h.ln hl).c).2;have h2:=h.r.line l hl;unfold zY at h2;simp only[Bool.and_eq_true]at h2;have:=Nat.le_of_ble_eq_true h2.1;omega
theorem zlg(m:Nat){s:List Ln}(h:GoodS s):OkS m s:=⟨h.r,fun l hl=>(znI m (h.g l hl).1).h⟩
section
variable{m:Nat}{s:List Ln}(h:OkS m s)
include h
theorem OkS.turnC{k:Nat}{l:Ln}(hk:s[k]?=some l)(h12:l.hs.length<12){x:Chg}(hx:ChOk m x):zC (glE m) 10 [scT s,I (k:Int),chT x] [] (if okV (z13 l) x then .tuple [scT (zkg s k l x),I 0] else .tuple [.agg [zn],I 70]) []:=by
 have hlo:=h.ln (gM hk);have ha:=zlS hlo.r x;have hl:=h.r.len;cases ho:okV (z13 l) x
 ·rw[ho]at ha;have:=zoL (by omega) h.ls (by rw[h.r.check]) hk hlo h12 x hx (by
   show(z0h (z13 l) x).2≠0;rw[ha];decide)
  rw[show(z0h (zp l l.hs.length).1 x).2=70 from ha]at this;exact this
 ·rw[ho]at ha;exact zid m s (by omega) h.ls (by rw[h.r.check]) h.few hk hlo h12 x hx ha
theorem OkS.addC(h0:s≠[])(h8:s.length<8){c:Cls}(hc:zd c=true):zC (glE m) 13 [scT s,clT c] [] (if(z0E s c.n).2 then .tuple [.agg [zn],I 80] else .tuple [scT (s++[⟨c,[]⟩]),I 0]) []:=by
 have hl:=h.r.len;cases hn:z0E s c.n with
 |mk k b=>
  cases b
  ·have hk:k=0:=by
    unfold z0E at hn;split at hn<;>cases hn
    rfl
   subst hk;exact zkq m s h0 h8 h.ls (by rw[h.r.check]) h.few c hc hn
  ·exact zd5 m s (by omega) h.ls (by rw[h.r.check]) c hc hn
end
end
end Go.Proofs.YtpmlapgbmgbilaaGreatDoor
end
