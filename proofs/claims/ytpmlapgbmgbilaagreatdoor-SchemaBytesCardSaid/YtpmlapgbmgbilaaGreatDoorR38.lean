/- Merged texts: Ya3 Ya4 Own OwnV Zy5 Pk3 Zx0 Ya5 Ya6 Zu6 Zu7 Zu8. No statement of the program is proved here. -/
import Derived.Test.YtpmlapgbmgbilaaGreatDoorR37
import Derived.Laws.AppendOwnNone
import Derived.Deep.AppendLies
set_option linter.unusedSimpArgs false
set_option linter.unusedVariables false
set_option maxRecDepth 100000
set_option maxHeartbeats 8000000
section
namespace Go.Proofs.YtpmlapgbmgbilaaGreatDoor
open Go Go.RowKit Go.Mor
section
open Go.Sh Go.Sh.Cd1 Go.Sh.Cd7 Go.Sh.Cd10
def z1Y(es:List (List PV))(z:List PV)(k:Nat):List (List PV):=es.take k++List.replicate (es.length-k) z
theorem z8y{es:List (List PV)}{z:List PV}{zs:List Value}(h:z=zs.map PV.v):(List.replicate es.length (zs.map fun v=>TV.pv (.v v))).flatten=pvC (z1Y es z 0).flatten:=by
 unfold z1Y pvC;rw[List.map_flatten,List.take_zero,List.nil_append,List.map_replicate,Nat.sub_zero,h,List.map_map];rfl
theorem z7C{es:List (List PV)}{z:List PV}{k:Nat}(h:k≤es.length):(z1Y es z k).length=es.length:=by unfold z1Y;rw[List.length_append,List.length_take,List.length_replicate];omega
theorem zaJ{es:List (List PV)}{z:List PV}:z1Y es z es.length=es:=by unfold z1Y;simp
theorem z7D{es:List (List PV)}{z:List PV}{k W:Nat}(hW:∀cs∈es,cs.length=W)(hz:z.length=W):∀cs∈z1Y es z k,cs.length=W:=fun cs h=>by
 rcases List.mem_append.1 h with h|h
 ·exact hW _ (List.mem_of_mem_take h)
 ·rw[(List.mem_replicate.1 h).2];exact hz
theorem zny{es:List (List PV)}{z r:List PV}{k:Nat}(hk:es[k]?=some r):(z1Y es z k).set k r=z1Y es z (k+1):=by
 have hl:=(gJ hk).1;unfold z1Y;rw[List.take_add_one,hk,List.set_append,List.length_take,if_neg (by omega),show k-min k es.length=0 by omega,show es.length-k=es.length-(k+1)+1 by omega,List.replicate_succ,List.set_cons_zero,List.append_assoc];rfl
theorem zaK{es:List (List PV)}{z r:List PV}{k W:Nat}(hW:∀cs∈es,cs.length=W)(hz:z.length=W)(hk:es[k]?=some r){t:List TV}(ht:r.map TV.pv=t):List.take (k*W) (pvC (z1Y es z k).flatten)++t++List.drop (k*W+W) (pvC (z1Y es z k).flatten)=pvC (z1Y es z (k+1)).flatten:=by
 have hl:=(gJ hk).1;rw[←zny hk,←z7j (x:=r) (hW r (gM hk)) (z7D hW hz) (by rw[z7C (by omega)];exact hl),←ht];unfold pvC;simp[List.map_take,List.map_drop]
theorem zrF{α:Type}{l:List α}(h:l.length=4):∃a b c d,l=[a,b,c,d]:=by
 match l,h with
 |[a,b,c,d],_=>exact⟨a,b,c,d,rfl⟩
theorem ztp{α:Type}{l:List α}(h:l.length=3):∃a b c,l=[a,b,c]:=by
 match l,h with
 |[a,b,c],_=>exact⟨a,b,c,rfl⟩
theorem ztq{α:Type}{l:List α}(h:l.length=8):∃a b c d e f g i,l=[a,b,c,d,e,f,g,i]:=by
 match l,h with
 |[a,b,c,d,e,f,g,i],_=>exact⟨a,b,c,d,e,f,g,i,rfl⟩
def tgT(W:Nat):List (List PV)→TV
 |[]=> .pv (.v (.slice none 0 0))
 |e::l=> .tsl W (e::l)
theorem zt9{W:Nat}{es:List (List PV)}(h:es≠[]):tgT W es=.tsl W es:=by
 cases es with
 |nil=>exact absurd rfl h
 |cons=>rfl
theorem ztd(W:Nat)(es:List (List PV)):Wk (tgT W es) (.pv (.sl W es)):=by
 cases es with
 |nil=>exact z2u W
 |cons=>exact fun _ _ _ _ h=>zsj h
theorem znt(g:Sh.Glob)(f:Nat)(es:List (List PV))(hW:∀cs∈es,cs.length=4)(hl:es.length≤1000)(H:∀cs∈es,zC g f [.agg (pvC cs)] [] (.agg (pvC cs)) []):
  zC g 68 [.pv (.sl 4 es),.pv (.v (.func (.func f) #[] #[]))] [] (.pv (.sl 4 es)) []:=by
 by_cases h0:es=[]
 ·subst h0;refine SCalls.out ?_ (z2u 4);refine za tf_115 ?_;simp only[vW,seval]
 refine z23 ze tf_115 rfl ?_
 conv in SFunc.code _=>reduce
 have d0:¬(es.length:Int)=0:=by have:=List.length_pos_iff.2 h0;omega
 have z0:=z8y (es:=es) (zs:=[.string ⟨#[]⟩,.int .i64 0,.int .i64 0,.bool false]) rfl;simp only[List.map_cons,List.map_nil]at z0;generalize hz:[PV.v (Value.string ⟨#[]⟩),PV.v (Value.int .i64 0),PV.v (Value.int .i64 0),PV.v (Value.bool false)]=z at z0;have hzl:z.length=4:=by rw[←hz];rfl
 refine zE ze ?_;simp only[vW,seval];refine zE ze ?_;simp only[vW,seval,d0];refine zE ze ?_;simp only[vW,seval,z0];refine⟨⟨by omega,by unfold maxLen;omega⟩,?_⟩;refine zE ze ?_;simp only[vW,seval,d0];refine zk (σ:={i:Nat // i≤es.length}) (fun i=>⟨[(1,.pv (.v (.func (.func f) #[] #[]))),(5,.bs 13 0 es.length es.length),(14,.pv (.sl 4 es)),(15,I (es.length:Int)),(16,I (i.1:Int))],[(13,pvC (z1Y es z i.1).flatten)],[],[]⟩) (fun i=>es.length-i.1) ⟨0,Nat.zero_le _⟩ ?_ ?_
 ·exact lwA
 rintro⟨i,hi⟩;by_cases hlt:i<es.length
 ·have d1:(i:Int)<(es.length:Int):=by omega
  obtain⟨cs,ex⟩:∃x,es[i]?=some x:=⟨_,gE hlt⟩
  have HC:=H cs (gM ex);have hp:=fun t ht=>zaK hW hzl ex (t:=t) ht;have hfl:(z1Y es z i).flatten.length=es.length*4:=by rw[z2X (z7D hW hzl),z7C hi]
  obtain⟨a,b,c,d,rfl⟩:=zrF (hW cs (gM ex));have hp:=hp _ rfl;have w1:=wS i;unfold pvC at HC;simp only[List.map_cons,List.map_nil]at hp HC;simp only[vW,seval,d1,ex];(with_reducible apply zr);exact kv;exact HC;rfl;exact kv;simp only[vW,seval,d1,hp,w1];refine⟨by omega,zc ⟨i+1,by omega⟩ (by show es.length-(i+1)<es.length-i;omega) lwA⟩
 ·have d1:¬(i:Int)<(es.length:Int):=by omega
  obtain rfl:i=es.length:=by omega
  simp only[vW,seval,d1];rw[zaJ];refine z2t (z66 (k:=5) (d:=13) (es:=es) (c:=es.length) rfl hW rfl) (z26 ze ?_);simp only[vW,seval]
theorem znu(g:Sh.Glob)(f:Nat)(es:List (List PV))(hW:∀cs∈es,cs.length=4)(hl:es.length≤1000)(H:∀cs∈es,zC g f [.agg (pvC cs)] [] (.agg (pvC cs)) []):
  zC g 102 [.pv (.sl 4 es),.pv (.v (.func (.func f) #[] #[]))] [] (.pv (.sl 4 es)) []:=by
 by_cases h0:es=[]
 ·subst h0;refine SCalls.out ?_ (z2u 4);refine za tf_117 ?_;simp only[vW,seval]
 refine z23 ze tf_117 rfl ?_
 conv in SFunc.code _=>reduce
 have d0:¬(es.length:Int)=0:=by have:=List.length_pos_iff.2 h0;omega
 have z0:=z8y (es:=es) (zs:=[.int .i64 0,.int .i64 0,.string ⟨#[]⟩,.slice none 0 0]) rfl;simp only[List.map_cons,List.map_nil]at z0;generalize hz:[PV.v (Value.int .i64 0),PV.v (Value.int .i64 0),PV.v (Value.string ⟨#[]⟩),PV.v (Value.slice none 0 0)]=z at z0;have hzl:z.length=4:=by rw[←hz];rfl
 refine zE ze ?_;simp only[vW,seval];refine zE ze ?_;simp only[vW,seval,d0];refine zE ze ?_;simp only[vW,seval,z0];refine⟨⟨by omega,by unfold maxLen;omega⟩,?_⟩;refine zE ze ?_;simp only[vW,seval,d0];refine zk (σ:={i:Nat // i≤es.length}) (fun i=>⟨[(1,.pv (.v (.func (.func f) #[] #[]))),(5,.bs 13 0 es.length es.length),(14,.pv (.sl 4 es)),(15,I (es.length:Int)),(16,I (i.1:Int))],[(13,pvC (z1Y es z i.1).flatten)],[],[]⟩) (fun i=>es.length-i.1) ⟨0,Nat.zero_le _⟩ ?_ ?_
 ·exact lwA
 rintro⟨i,hi⟩;by_cases hlt:i<es.length
 ·have d1:(i:Int)<(es.length:Int):=by omega
  obtain⟨cs,ex⟩:∃x,es[i]?=some x:=⟨_,gE hlt⟩
  have HC:=H cs (gM ex);have hp:=fun t ht=>zaK hW hzl ex (t:=t) ht;have hfl:(z1Y es z i).flatten.length=es.length*4:=by rw[z2X (z7D hW hzl),z7C hi]
  obtain⟨a,b,c,d,rfl⟩:=zrF (hW cs (gM ex));have hp:=hp _ rfl;have w1:=wS i;unfold pvC at HC;simp only[List.map_cons,List.map_nil]at hp HC;simp only[vW,seval,d1,ex];(with_reducible apply zr);exact kv;exact HC;rfl;exact kv;simp only[vW,seval,d1,hp,w1];refine⟨by omega,zc ⟨i+1,by omega⟩ (by show es.length-(i+1)<es.length-i;omega) lwA⟩
 ·have d1:¬(i:Int)<(es.length:Int):=by omega
  obtain rfl:i=es.length:=by omega
  simp only[vW,seval,d1];rw[zaJ];refine z2t (z66 (k:=5) (d:=13) (es:=es) (c:=es.length) rfl hW rfl) (z26 ze ?_);simp only[vW,seval]
theorem zkR(g:Sh.Glob)(f:Nat)(es:List (List PV))(hW:∀cs∈es,cs.length=8)(hl:es.length≤1000)(H:∀cs∈es,zC g f [.agg (pvC cs)] [] (.agg (pvC cs)) []):
  zC g 92 [.pv (.sl 8 es),.pv (.v (.func (.func f) #[] #[]))] [] (tgT 8 es) []:=by
 by_cases h0:es=[]
 ·subst h0;refine za tf_114 ?_;simp only[vW,seval];rfl
 rw[zt9 h0];refine z23 ze tf_114 rfl ?_
 conv in SFunc.code _=>reduce
 have d0:¬(es.length:Int)=0:=by have:=List.length_pos_iff.2 h0;omega
 have z0:=z8y (es:=es) (zs:=[.int .i64 0,.string ⟨#[]⟩,.string ⟨#[]⟩,.string ⟨#[]⟩,.int .i64 0,.int .i64 0,.string ⟨#[]⟩,.string ⟨#[]⟩]) rfl;simp only[List.map_cons,List.map_nil]at z0;generalize hz:[PV.v (Value.int .i64 0),PV.v (Value.string ⟨#[]⟩),PV.v (Value.string ⟨#[]⟩),PV.v (Value.string ⟨#[]⟩),PV.v (Value.int .i64 0),PV.v (Value.int .i64 0),PV.v (Value.string ⟨#[]⟩),PV.v (Value.string ⟨#[]⟩)]=z at z0;have hzl:z.length=8:=by rw[←hz];rfl
 refine zE ze ?_;simp only[vW,seval];refine zE ze ?_;simp only[vW,seval,d0];refine zE ze ?_;simp only[vW,seval,z0];refine⟨⟨by omega,by unfold maxLen;omega⟩,?_⟩;refine zE ze ?_;simp only[vW,seval,d0];refine zk (σ:={i:Nat // i≤es.length}) (fun i=>⟨[(1,.pv (.v (.func (.func f) #[] #[]))),(5,.bs 13 0 es.length 0),(14,.pv (.sl 8 es)),(15,I (es.length:Int)),(16,I (i.1:Int))],[(13,pvC (z1Y es z i.1).flatten)],[],[]⟩) (fun i=>es.length-i.1) ⟨0,Nat.zero_le _⟩ ?_ ?_
 ·exact lwA
 rintro⟨i,hi⟩;by_cases hlt:i<es.length
 ·have d1:(i:Int)<(es.length:Int):=by omega
  obtain⟨cs,ex⟩:∃x,es[i]?=some x:=⟨_,gE hlt⟩
  have HC:=H cs (gM ex);have hp:=fun t ht=>zaK hW hzl ex (t:=t) ht;have hfl:(z1Y es z i).flatten.length=es.length*8:=by rw[z2X (z7D hW hzl),z7C hi]
  obtain⟨a,b,c,d,e,p,q,r,rfl⟩:=ztq (hW cs (gM ex));have hp:=hp _ rfl;have w1:=wS i;unfold pvC at HC;simp only[List.map_cons,List.map_nil]at hp HC;simp only[vW,seval,d1,ex];(with_reducible apply zr);exact kv;exact HC;rfl;exact kv;simp only[vW,seval,d1,hp,w1];refine⟨by omega,zc ⟨i+1,by omega⟩ (by show es.length-(i+1)<es.length-i;omega) lwA⟩
 ·have d1:¬(i:Int)<(es.length:Int):=by omega
  obtain rfl:i=es.length:=by omega
  simp only[vW,seval,d1];rw[zaJ];refine z2t (zpU (k:=5) (d:=13) (es:=es) rfl hW rfl) (z26 ze ?_);simp only[vW,seval]
theorem zbJ(g:Sh.Glob)(l:List V)(hl:l.length≤1000)(H:∀x∈l,zC g 103 [tv x] [] (tv x) []):zC g 78 [.pv (.sl 4 (V.rows l))] [] (.pv (.sl 4 (V.rows l))) []:=by
 have HE:=znu g 103 (V.rows l) (zcf l) (by rw[z1u];exact hl) (fun cs hcs=>by
  rw[z1e]at hcs;obtain⟨x,hx,rfl⟩:=List.mem_map.1 hcs;have:=H x hx;rw[z2l];exact this)
 refine z0u tf_113 ?_;exact zf HE
theorem zgR(g:Sh.Glob){x:V}(hx:VFew x):zC g 103 [tv x] [] (tv x) []:=by
 induction hx with
 |mk h hs ih=>
  rename_i k n s l;have HV:=zbJ g l h ih;refine za tf_112 ?_;simp only[vW,seval];refine z8 HV ?_;simp only[vW,seval]
theorem zff(g:Sh.Glob)(l:List V)(hl:l.length≤1000)(hf:∀v∈l,VFew v):zC g 78 [.pv (.sl 4 (V.rows l))] [] (.pv (.sl 4 (V.rows l))) []:=
 zbJ g l hl fun x hx=>zgR g (hf x hx)
theorem zox(g:Sh.Glob)(f:Fld):zC g 69 [.agg (pvC (flR1 f))] [] (.agg (pvC (flR1 f))) []:=by
 refine za tf_120 ?_;unfold flR1 pvC;simp only[vW,seval]
theorem zow(g:Sh.Glob)(h:Chg):zC g 93 [.agg (pvC (chR h))] [] (.agg (pvC (chR h))) []:=by
 refine za tf_119 ?_;unfold chR pvC;simp only[vW,seval]
theorem z3X(g:Sh.Glob)(c:Cls)(hl:c.fs.length≤1000):zC g 38 [clT c] [] (clT c) []:=by
 have HE:=znt g 69 (flR c.fs) (fun cs hcs=>by
  obtain⟨x,hx,rfl⟩:=List.mem_map.1 hcs;rfl) (by rw[z2e];exact hl) (fun cs hcs=>by
  obtain⟨x,hx,rfl⟩:=List.mem_map.1 hcs;exact zox g x)
 refine za tf_110 ?_;unfold clT;simp only[vW,seval];refine z8 HE ?_;simp only[vW,seval]
def lnR(l:Ln):List PV:=[.v (.string (str l.c.n)),.sl 4 (flR l.c.fs),.sl 8 (z0U l.hs)]
def z0t(ls:List Ln):List (List PV):=ls.map lnR
end
section
structure RowT(α:Type) where
 e:TypeId
 t:TypeId
 size:Nat
 bytes:Nat
 zero:Value
 cells:α→List Value
 len:∀x,(cells x).length=size
 one:∀x u,u∈cells x→u.oneCell'=true
 pos:0<size
 few:bytes≤1000
 und:Tryz.prog.underlying t=some (.slice e)
 info:(Tryz.prog.info? e).map (fun i=>(i.zero,i.size,i.bytes))=some (some zero,size,bytes)
 zlen:zero.cells.size=size
variable{α:Type}(R:RowT α)
def IsR(ok:Nat→Prop)(w:World)(l:List α)(c:Value):Prop:=
 ∃(b off cap:Nat) (p:Option Addr),c=.slice p l.length cap∧l.length≤cap∧cap≤maxLen∧(l≠[]→p=some ⟨b,off,none⟩∧ok b)∧(p=none→c=.slice none 0 0)∧
  ∀(i:Nat) (x:α),l[i]?=some x→∀(j:Nat) (u:Value),(R.cells x)[j]?=some u→w.cell? ⟨b,off+i*R.size+j,none⟩=some u
def OwnR(base:Nat)(w:World)(v:Value)(l:List α):Prop:=w.ownsRow base R.e R.size v l.length (l.flatMap R.cells)
variable{R}
theorem IsR.keepBy{ok:Nat→Prop}{w w':World}{l:List α}{c:Value}(h:IsR R ok w l c)(hk:∀a v,ok a.block→w.cell? a=some v→w'.cell? a=some v):IsR R ok w' l c:=by
 obtain⟨b,off,cap,p,h1,h2,h3,h4,h6,h5⟩:=h;refine⟨b,off,cap,p,h1,h2,h3,h4,h6,fun i x hx j u hu=> ?_⟩;exact hk _ _ (h4 (by rintro rfl;simp at hx)).2 (h5 i x hx j u hu)
theorem IsR.ext{ok:Nat→Prop}{w w':World}{l:List α}{c:Value}(h:IsR R ok w l c)(hb:Below w.heap.size w w'):IsR R ok w' l c:=
 h.keepBy fun _ _ _ hv=>(hb.cell (z1d hv)).trans hv
theorem IsR.weaken{ok ok':Nat→Prop}{w:World}{l:List α}{c:Value}(h:IsR R ok w l c)(hk:∀b,ok b→ok' b):IsR R ok' w l c:=by
 obtain⟨b,off,cap,p,h1,h2,h3,h4,h5⟩:=h;exact⟨b,off,cap,p,h1,h2,h3,fun hl=>⟨(h4 hl).1,hk _ (h4 hl).2⟩,h5⟩
theorem IsR.at{ok:Nat→Prop}{w:World}{l:List α}{p:Option Addr}{n cap:Nat}(h:IsR R ok w l (.slice p n cap))(hl:0<l.length):
  ∃b off,p=some ⟨b,off,none⟩∧ok b∧b<w.heap.size∧∀(i:Nat) (x:α),l[i]?=some x→∀(j:Nat) (u:Value),(R.cells x)[j]?=some u→w.cell? ⟨b,off+i*R.size+j,none⟩=some u:=by
 obtain⟨b,off,cap',p',h1,h2,h3,h4,h6,h5⟩:=h;obtain⟨rfl,_,_⟩:p=p'∧_:=by simpa using h1
 have hne:l≠[]:=by rintro rfl;simp at hl
 refine⟨b,off,(h4 hne).1,(h4 hne).2,?_,h5⟩;obtain⟨x,hx⟩:∃x,l[0]?=some x:=⟨_,gE hl⟩
 have hpos:=R.pos;obtain⟨u,hu⟩:∃u,(R.cells x)[0]?=some u:=⟨_,gE (by rw[R.len];exact hpos)⟩
 exact z1d (h5 0 x hx 0 u hu)
theorem IsR.cell{ok:Nat→Prop}{w:World}{l:List α}{g o n cap:Nat}(h:IsR R ok w l (.slice (some ⟨g,o,none⟩) n cap)){i:Nat}{x:α}(hx:l[i]?=some x){j:Nat}{u:Value}(hu:(R.cells x)[j]?=some u):w.cell? ⟨g,o+i*R.size+j,none⟩=some u:=by
 obtain⟨b,off,cap',p',h1,h2,h3,h4,h6,h5⟩:=h;have hne:l≠[]:=by rintro rfl;simp at hx
 obtain⟨hp,_⟩:=h4 hne;subst hp;have h1a:(⟨g,o,none⟩:Addr)=⟨b,off,none⟩:=by injection h1 with h1;injection h1
 have hgb:g=b:=congrArg Addr.block h1a;have hof:o=off:=congrArg Addr.off h1a;have:=h5 i x hx j u hu;rw[←hgb,←hof]at this;exact this
theorem IsR.none_{ok:Nat→Prop}{w:World}:IsR R ok w [] (.slice none 0 0):=⟨0,0,0,none,rfl,by simp,Nat.zero_le _,by simp,fun _=>rfl,by simp⟩
theorem OwnR.nil(base:Nat)(w:World):OwnR R base w (.slice none 0 0) []:=⟨by simp,.inl ⟨rfl,rfl⟩⟩
theorem OwnR.ext{base:Nat}{w w':World}{v:Value}{l:List α}(h:OwnR R base w v l)(hb:Below w.heap.size w w'):OwnR R base w' v l:=by
 refine⟨h.1,?_⟩;rcases h.2 with h|⟨g,cap,cur,h1,h2,h3,h4⟩
 ·exact .inl h
 ·exact .inr ⟨g,cap,cur,h1,h2,(hb.block g (z4o h3)).trans h3,h4⟩
theorem OwnR.set{base:Nat}{w:World}{v u:Value}{l:List α}{C i:Nat}(h:OwnR R base w v l)(hn:some C≠v.ownBlock):OwnR R base (w.setCell ⟨C,i,none⟩ u) v l:=by
 refine⟨h.1,?_⟩;rcases h.2 with h|⟨g,cap,cur,rfl,h2,h3,h4⟩
 ·exact .inl h
 ·exact .inr ⟨g,cap,cur,rfl,h2,(heap_setCell_other _ _ _ _ (fun e=>hn (congrArg some e.symm))).trans h3,h4⟩
theorem zla(l:List α)(i:Nat)(x:α)(h:l[i]?=some x)(j:Nat)(hj:j<R.size):(l.flatMap R.cells)[i*R.size+j]?=(R.cells x)[j]?:=by
 induction l generalizing i with
 |nil=>simp at h
 |cons g r ih=>
  rw[List.flatMap_cons];cases i with
  |zero=>
   simp at h;subst h;rw[List.getElem?_append_left (by rw[R.len];omega)];simp
  |succ i=>
   rw[List.getElem?_append_right (by rw[R.len,Nat.add_mul];omega),R.len];have:(i+1)*R.size+j-R.size=i*R.size+j:=by rw[Nat.add_mul];omega
   rw[this];exact ih i (by simpa using h)
theorem OwnR.isR{base:Nat}{w:World}{v:Value}{l:List α}(h:OwnR R base w v l):IsR R (fun b=>base≤b∧v.ownBlock=some b) w l v:=by
 rcases h.2 with⟨rfl,h0⟩|⟨g,cap,cur,rfl,hg,hc,hcap,hmax,hsz,htake⟩
 ·obtain rfl:l=[]:=List.eq_nil_of_length_eq_zero h0;exact IsR.none_
 ·refine⟨g,0,cap,_,rfl,hcap,hmax,fun _=>⟨rfl,hg,rfl⟩,(fun h=>by cases h),fun i x hx j u hu=> ?_⟩;have hi:i<l.length:=(gJ hx).1;have hj:j<R.size:=by rw[←R.len x];exact(gJ hu).1
  have hlt:i*R.size+j<l.length*R.size:=by
   have:=Nat.mul_le_mul_right R.size (show i+1≤l.length by omega);rw[Nat.add_mul]at this;omega
  rw[←hu,←zla l i x hx j hj,←htake,List.getElem?_take_of_lt hlt];simp[World.cell?,hc]
theorem OwnR.at{base:Nat}{w:World}{p:Option Addr}{n cap:Nat}{l:List α}(h:OwnR R base w (.slice p n cap) l)(hl:0<l.length):∃g,p=some ⟨g,0,none⟩∧base≤g∧g<w.heap.size:=by
 rcases h.2 with⟨h1,h0⟩|⟨g,cap',cur,h1,hg,hc,_⟩
 ·omega
 ·refine⟨g,?_,hg,z4o hc⟩;injection h1
theorem OwnR.cell{base:Nat}{w:World}{g n cap:Nat}{l:List α}(h:OwnR R base w (.slice (some ⟨g,0,none⟩) n cap) l){i:Nat}{x:α}(hx:l[i]?=some x){j:Nat}{u:Value}(hu:(R.cells x)[j]?=some u):w.cell? ⟨g,i*R.size+j,none⟩=some u:=by
 obtain⟨b,off,cap',p',h1,h2,h3,h4,h6,h5⟩:=h.isR;have hne:l≠[]:=by rintro rfl;simp at hx
 obtain⟨hp,_⟩:=h4 hne;subst hp;have h1a:(⟨g,0,none⟩:Addr)=⟨b,off,none⟩:=by injection h1 with h1;injection h1
 have hgb:g=b:=congrArg Addr.block h1a;have hof:0=off:=congrArg Addr.off h1a;have:=h5 i x hx j u hu;rw[←hgb,←hof,Nat.zero_add]at this;exact this
theorem OwnR.any{base:Nat}{w:World}{v:Value}{l:List α}(h:OwnR R base w v l):IsR R (fun _=>True) w l v:=h.isR.weaken fun _ _=>trivial
end
structure VC where
 v:V
 p:Option Addr
 cap:Nat
def VC.c(y:VC):Value:=.slice y.p y.v.l.length y.cap
section
open Go.Sh Go.Sh.Cd1
theorem zjV{x:V}(h:z1L x=true):x=.mk 0 0 [] []∨(∃n, -1000000000000000≤n∧n≤1000000000000000∧x=.mk 1 n [] [])∨(∃s,zl s=true∧x=.mk 2 0 s [])∨(∃k n,(k=3∨k=4)∧z3H n=true∧x=.mk k n [] []):=by
 unfold z1L bare at h;have e:=V.eta x;by_cases h0:x.k=0
 ·rw[if_pos h0]at h;simp at h;obtain⟨⟨h1,h2⟩,h3⟩:=h;exact .inl (by rw[←e,h0,h1,h2,h3])
 rw[if_neg h0]at h;by_cases h0:x.k=1
 ·rw[if_pos h0]at h;simp at h;obtain⟨⟨⟨h1,h2⟩,h3⟩,h4⟩:=h;exact .inr (.inl ⟨x.n,h3,h4,by rw[←e,h0,h1,h2];rfl⟩)
 rw[if_neg h0]at h;by_cases h0:x.k=2
 ·rw[if_pos h0]at h;simp at h;obtain⟨⟨h1,h2⟩,h3⟩:=h;exact .inr (.inr (.inl ⟨x.s,h3,by rw[←e,h0,h1,h2];rfl⟩))
 rw[if_neg h0]at h;by_cases h0:x.k=3∨x.k=4
 ·rw[if_pos h0]at h;simp at h;obtain⟨⟨h1,h2⟩,h3⟩:=h;exact .inr (.inr (.inr ⟨x.k,x.n,h0,h3,by rw[←e,h1,h2];rfl⟩))
 ·rw[if_neg h0]at h;cases h
theorem zee{s:zB}(h:zl s=true):s.length≤60:=by unfold zl at h;simp at h;exact h.1
theorem zhc{n:Int}(h:z3H n=true):(1≤n∧n≤100000)∨(-20≤n∧n≤ -1):=by unfold z3H at h;simpa using h
theorem z5r{x:V}(h:z1L x=true):zr0 x∧x.k≠5∧x.l=[]:=by
 unfold zr0 I64;rcases zjV h with rfl|⟨n,h1,h2,rfl⟩|⟨s,h1,rfl⟩|⟨k,n,h1,h2,rfl⟩
 ·refine⟨⟨⟨?_,?_⟩,⟨?_,?_⟩,?_⟩,?_,rfl⟩<;>simp[V.k,V.n,V.s]
 ·refine⟨⟨⟨?_,?_⟩,⟨?_,?_⟩,?_⟩,?_,rfl⟩<;>simp[V.k,V.n,V.s]<;>omega
 ·have:=zee h1;refine⟨⟨⟨?_,?_⟩,⟨?_,?_⟩,?_⟩,?_,rfl⟩<;>simp[V.k,V.n,V.s]<;>omega
 ·have:=zhc h2;refine⟨⟨⟨?_,?_⟩,⟨?_,?_⟩,?_⟩,?_,rfl⟩<;>simp[V.k,V.n,V.s]<;>omega
theorem zc9{x:V}(h:z1r x=true)(h5:x.k=5):x.n=0∧x.s=[]∧x.l.length≤12∧∀y∈x.l,y.k≠5∧z1L y=true:=by
 unfold z1r at h;rw[if_pos h5]at h;simp only[Bool.and_eq_true,beq_iff_eq,decide_eq_true_eq,Bool.not_eq_true',List.any_eq_false]at h;obtain⟨⟨⟨h1,h2⟩,h3⟩,h4⟩:=h;refine⟨h1,h2,h3,fun y hy=> ?_⟩;have:=h4 y hy;unfold z3S at this;simp at this;exact this
theorem zcc{x:V}(h:z1r x=true)(h5:x.k≠5):z1L x=true:=by unfold z1r at h;rwa [if_neg h5]at h
theorem zjX{x:V}(h:z1r x=true):VOk x∧VSmall x∧x.s.length≤60∧x.l.length≤12:=by
 have hm:maxLen=9223372036854775807:=rfl;by_cases h5:x.k=5
 ·obtain⟨h1,h2,h3,h4⟩:=zc9 h h5;refine⟨⟨by unfold z25;rw[h2];simp,fun y hy=> ?_⟩,?_,by rw[h2];simp,h3⟩
  ·have:=(z5r (h4 y hy).2).1.2.2;unfold z25;omega
  ·obtain⟨k,n,s,l⟩:=x;simp only[Vl]at h3 h4;refine .mk (by omega) (fun y hy=> ?_);have:=(z5r (h4 y hy).2).2.2;obtain⟨k',n',s',l'⟩:=y;simp only[Vl]at this;subst this;exact .mk (by simp) (by simp)
 ·have h0:=z5r (zcc h h5);refine⟨⟨by have:=h0.1.2.2;unfold z25;omega,by rw[h0.2.2];simp⟩,?_,h0.1.2.2,by rw[h0.2.2];simp⟩;obtain⟨k,n,s,l⟩:=x;have:=h0.2.2;simp only[Vl]at this;subst this;exact .mk (by simp) (by simp)
end
end Go.Proofs.YtpmlapgbmgbilaaGreatDoor
end

section
namespace Go.Mor
open Go
structure Step(c:Cls)(vals:List V)(h:Chg)(d:Cls)(u:List V):Prop where
 ap:z0h c h=(d,0)
 va:z6M c h vals=(u,0)
 fit:FitC d u
end Go.Mor
end

section
namespace Go.Proofs.YtpmlapgbmgbilaaGreatDoor
open Go Go.RowKit Go.Mor Go.Sh Go.Sh.Cd1 Go.Sh.Cd7
theorem zl1{x:V}(h:z1r x=true):VFew x∧VOk x:=by
 have hv:=zjX h;refine⟨?_,hv.1⟩;by_cases h5:x.k=5
 ·obtain⟨_,_,h3,h4⟩:=zc9 h h5;obtain⟨k,n,s,l⟩:=x;simp only[Vl]at h3 h4;exact .mk (by omega) (fun y hy=>zf6 (z5r (h4 y hy).2).2.2)
 ·exact zf6 (z5r (zcc h h5)).2.2
theorem zhH{c:Cls}{vals:List V}(h:FitC c vals):∀v∈vals,VFew v∧VOk v:=fun v hv=>by
 obtain⟨i,hi⟩:=List.getElem?_of_mem hv;have hl:=h.len;have hlt:=(gJ hi).1;have:=h.fit i _ v (gE (show i<c.fs.length by omega)) hi;unfold zJ at this;simp only[Bool.and_eq_true]at this;exact zl1 this.1.1.1
section
open Go.Sh.Cd10
def z3e(l:Ln)(fr tt:Nat)(vals:List V)(i:Nat):List V:=z8s l fr vals (min i tt-fr)
theorem zlk{l:Ln}{fr tt:Nat}(h:fr≤tt)(vals:List V){i:Nat}(hi:i≤tt):(if fr≤i∧i<tt then z1F (zp l i).1 (l.hs.getD i ch0) (z3e l fr tt vals i)else z3e l fr tt vals i)=z3e l fr tt vals (i+1):=by
 unfold z3e;by_cases h1:fr≤i∧i<tt
 ·rw[if_pos h1,show min (i+1) tt-fr=(min i tt-fr)+1 by omega];show _=z1F _ _ _;rw[show fr+(min i tt-fr)=i by omega]
 ·rw[if_neg h1,show min (i+1) tt-fr=min i tt-fr by omega]
theorem znM{l:Ln}(hr:zY l=true){fr tt:Nat}{vals:List V}(hf:FitC (zp l fr).1 vals)(ht:tt≤l.hs.length)(hft:fr≤tt){i:Nat}(hi:i≤tt):FitC (zp l (if fr≤i then i else fr)).1 (z3e l fr tt vals i):=by
 unfold z3e;have:=zeO hr hf (min i tt-fr) (by omega);by_cases h:fr≤i
 ·rw[if_pos h];rwa [show fr+(min i tt-fr)=i by omega]at this
 ·rw[if_neg h];rwa [show fr+(min i tt-fr)=fr by omega]at this
theorem zdr{c:Cls}{vals:List V}(h:FitC c vals):vals.length≤1000:=by
 have:=(z1h h.r).2;rw[h.len];omega
theorem zfm(m:Nat)(l:Ln)(hl:LnOk m l)(hB:FrB m l)(i fr tt:Nat)(hft:fr≤tt)(hto:tt≤l.hs.length)(hi:i≤tt)(vals:List V)(hf:FitC (zp l fr).1 vals){c:Cls}(hc:zp l i=(c,0)):
  zC (glE m) 79 [clT c,.ptr 1000 0,.ptr 1001 0,.ptr 1002 0,.ptr 1003 0,.ptr 1004 0,.ptr 1005 0] (osK l i fr tt (z3e l fr tt vals i) 0) (B (decide (i+1≤tt))) (osK l (i+1) fr tt (z3e l fr tt vals (i+1)) 0):=by
 have h0:=znM hl.r hf hto hft hi;have:=znj m l hl hB i fr tt hft hto hi (z3e l fr tt vals i) (zhH h0) (zdr h0) (fun h=>by rwa [if_pos h]at h0);rw[zlk hft vals hi,hc]at this;exact this
theorem znd(m:Nat)(l:Ln)(hl:LnOk m l)(hB:FrB m l)(fr tt:Nat)(hft:fr≤tt)(hto:tt≤l.hs.length)(vals:List V)(hf:FitC (zp l fr).1 vals):
  zC (glE m) 54 [.agg (lnC l),I (fr:Int),I (tt:Int),.pv (.sl 4 (V.rows vals))] [] (.tuple [.pv (.sl 4 (V.rows (z8s l fr vals (tt-fr)))),I 0]) []:=by
 refine za tf_177 ?_ (hc:=rfl);have HV:=z74 (glE m) l;have HC:=z0k (glE m) l.c (z1h hl.c).1;have HF:=zff (glE m) vals (zdr hf) (fun v hv=>(zhH hf v hv).1);have hz:=z3r l;rw[show z3h l=(l.c,0) by simp[z3h,hl.c]]at hz;have H0:=zfm m l hl hB 0 fr tt hft hto (Nat.zero_le _) vals hf hz;have h12:=hl.len;rw[hl.c]at HC;have hh0:z3e l fr tt vals 0=vals:=by unfold z3e;rw[show min 0 tt-fr=0 by omega];rfl
 rw[hh0]at H0;have hhe:z3e l fr tt vals (tt+1)=z8s l fr vals (tt-fr):=by unfold z3e;rw[show min (tt+1) tt-fr=tt-fr by omega]
 unfold osK lnC B clT at*;simp only[vcY,seval];refine z2o HF ?_;refine z2o HV ?_;refine zc0 (H:=z3D [(24,1)]) (Fp:=fpT []) (Kk:=z3E []) (lug:=[13]) tf_183 ?_;intro yv;refine z2o HC ?_;refine z6O ?_;(with_reducible apply zr);simp only[vcY,seval];rfl;exact H0;rfl;simp only[vcY,seval];rfl;simp only[vcY,seval];refine⟨fun h1=> ?_,fun h1=> ?_⟩
 ·refine zcu (σ:={x:Nat×Cls // x.1<tt∧zp l x.1=(x.2,0)}) (fun x=>yV yv l x.1.1 x.1.2 [(1001,[.fn (.func 79) [] [.ptr 1002 0,.ptr 1003 0,.ptr 1004 0,.ptr 1005 0,.ptr 1006 0,.ptr 1007 0]]),(1002,[I ((x.1.1+1:Nat):Int)]),(1003,[I (fr:Int)]),(1004,[.pv (.sl 4 (V.rows (z3e l fr tt vals (x.1.1+1))))]),(1005,[I 0]),(1006,[I (tt:Int)]),(1007,lnC l)]) (fun x=>l.hs.length-x.1.1) ⟨(0,l.c),by show 0<tt;omega,hz⟩ ?_ ?_
  ·unfold yV lnC;exact lwA
  rintro⟨⟨i,c⟩,hi,hv'⟩;have hi:i<tt:=hi;have hv':zp l i=(c,0):=hv';unfold yV lnC;obtain⟨h,ex⟩:∃h,l.hs[i]?=some h:=⟨_,gE (by omega)⟩
  obtain⟨n1,n2,n3⟩:=zbj hl ex;rw[hv']at n1 n2 n3;have HA:=z61 m c h n2 (hl.h h (gM ex)) (by have:c.fs.length≤8:=n3;omega);have n1:z0h c h=((zp l (i+1)).1,0):=n1;rw[n1]at HA;have hv1:zp l (i+1)=((zp l (i+1)).1,0):=by rw[←z0r hl.r (show i+1≤l.hs.length by omega)]
  have HS:=zfm m l hl hB (i+1) fr tt hft hto (by omega) vals hf hv1;unfold osK lnC B clT at HS;unfold z60 clT chT at HA;have d2:(i:Int)<((z0U l.hs).length:Int):=by rw[z0K];omega
  have w2:=wS i;simp only[vcY,seval,d2,z4x,ex,chR];refine z2o HA ?_;refine z6O ?_;(with_reducible apply zr);simp only[vcY,seval];rfl;exact HS;rfl;simp only[vcY,seval];rfl;simp only[vcY,seval];refine⟨fun e=>zc ⟨(i+1,(zp l (i+1)).1),by show i+1<tt;omega,hv1⟩ (by show l.hs.length-(i+1)<l.hs.length-i;omega) ?_,fun e=> ?_⟩
  ·simp only[w2];exact lwA
  ·obtain rfl:tt=i+1:=by omega
   rw[hhe]
 ·obtain rfl:tt=0:=by omega
  rw[hhe]
def scT(ls:List Ln):TV:=.agg [.pv (.sl 3 (z0t ls))]
theorem z3Y(ls:List Ln)(k:Nat):(z0t ls)[k]?=(ls[k]?).map lnR:=by unfold z0t;rw[List.getElem?_map]
theorem z0L(ls:List Ln):(z0t ls).length=ls.length:=by unfold z0t;rw[List.length_map]
theorem z67(g:Sh.Glob)(ls:List Ln)(n:zB)(hl:ls.length≤1000):zC g 14 [scT ls,S (str n)] [] (.tuple [I ((z0E ls n).1:Int),B (z0E ls n).2]) []:=by
 refine za tf_172 ?_;obtain⟨R,hR⟩:∃R,z0E ls n=R:=⟨_,rfl⟩
 rw[hR];unfold scT B;simp only[vW,seval,z0L];refine zk (σ:={i:Nat // i≤ls.length∧∀(j:Nat) x,j<i→ls[j]?=some x→(x.c.n==n)=false}) (fun i=>⟨[(1,S (str n)),(9,.pv (.sl 3 (z0t ls))),(10,I (ls.length:Int)),(11,I (i.1:Int))],[],[],[]⟩) (fun i=>ls.length-i.1) ⟨0,Nat.zero_le _,fun j x hj=>by omega⟩ ?_ ?_
 ·exact lwA
 rintro⟨i,hi,hno⟩;by_cases hlt:i<ls.length
 ·have d1:(i:Int)<(ls.length:Int):=by omega
  obtain⟨x,ex⟩:∃x,ls[i]?=some x:=⟨_,gE hlt⟩
  have w1:=wS i;cases hp:(x.c.n==n)
  ·have hp':¬x.c.n=n:=by simpa using hp
   simp only[vW,seval,d1,z3Y,ex,lnR,hp,hp',w1];refine zc ⟨i+1,by omega,fun j y hj hy=> ?_⟩ (by show ls.length-(i+1)<ls.length-i;omega) lwA;by_cases hji:j=i
   ·subst hji;rw[ex]at hy;cases hy;exact hp
   ·exact hno j y (by omega) hy
  ·have hp':x.c.n=n:=by simpa using hp
   simp only[vW,seval,d1,z3Y,ex,lnR,hp,hp',w1];rw[←hR,zcH ex hp hno]
 ·have d1:¬(i:Int)<(ls.length:Int):=by omega
  simp only[vW,seval,d1];rw[←hR,z8z (fun x hx=>by
   obtain⟨j,hj⟩:=List.getElem?_of_mem hx;exact hno j x (by have:=(gJ hj).1;omega) hj)]
  rfl
def z7r(m:Nat)(ls:List Ln):Prop:=∀l∈ls,ClsOk l.c∧∀h∈l.hs,ChOk m h
theorem z4j(m:Nat)(ls:List Ln)(hl:ls.length≤1000)(hs:z7r m ls):zC (glE m) 21 [scT ls] [] (.tuple [I (z5x ls).1,I (z5x ls).2]) []:=by
 refine za tf_171 ?_;obtain⟨R,hR⟩:∃R,z5x ls=R:=⟨_,rfl⟩
 rw[hR];unfold z5x at hR;by_cases h8:8<ls.length
 ·rw[if_pos h8]at hR;have d0:(8:Int)<(ls.length:Int):=by omega
  unfold scT;simp only[vW,seval,z0L,d0];rw[←hR]
 rw[if_neg h8]at hR;have d0:¬(8:Int)<(ls.length:Int):=by omega
 unfold scT;simp only[vW,seval,z0L,d0];refine zk (σ:={i:Nat // i≤ls.length∧z9s ls i (ls.drop i)=R}) (fun i=>⟨[(1,.ptr 1 0),(13,.pv (.sl 3 (z0t ls))),(14,I (ls.length:Int)),(15,I (i.1:Int))],[(1,[.pv (.sl 3 (z0t ls))])],[],[]⟩) (fun i=>ls.length-i.1) ⟨0,Nat.zero_le _,hR⟩ ?_ ?_
 ·exact lwA
 rintro⟨i,hi,hg⟩;by_cases hlt:i<ls.length
 ·have d1:(i:Int)<(ls.length:Int):=by omega
  obtain⟨x,ex⟩:∃x,ls[i]?=some x:=⟨_,gE hlt⟩
  have w1:=wS i;have HF:=z67 (glE m) ls x.c.n hl;have HR:=zmi m x (hs x (gM ex)).1 (hs x (gM ex)).2;rw[zeR ls i ex]at hg;unfold zbo at hg;unfold scT B at HF;unfold lnC B at HR;simp only[vW,seval,d1,z3Y,ex,lnR];refine z8 HF ?_;by_cases hf:(z0E ls x.c.n).1<i
  ·have d2:((z0E ls x.c.n).1:Int)<(i:Int):=by omega
   simp only[vW,seval,d2,false_imp_iff,and_true,true_and,forall_const];simp only[hf,decide_true,Bool.true_or,if_true]at hg;rw[←hg]
  ·have d2:¬((z0E ls x.c.n).1:Int)<(i:Int):=by omega
   simp only[vW,seval,d2,false_imp_iff,and_true,true_and,forall_const];refine z8 HR ?_;cases hr:zY x
   ·simp only[vW,seval];simp only[hr,Bool.not_false,Bool.or_true,if_true]at hg;rw[←hg]
   ·simp only[vW,seval,w1];simp only[hf,hr,decide_false,Bool.not_true,Bool.or_false,Bool.false_eq_true,if_false]at hg;refine zc ⟨i+1,by omega,hg⟩ (by show ls.length-(i+1)<ls.length-i;omega) lwA
 ·have d1:¬(i:Int)<(ls.length:Int):=by omega
  rw[List.drop_eq_nil_of_le (by omega)]at hg;simp only[vW,seval,d1];rw[←hg];rfl
end
theorem z48(g:Sh.Glob)(c n:Int)(hc:I64 c)(hn:0<n):zC g 27 [I c,I n] [] (I (Go.Mor.pick c n)) []:=by
 obtain⟨h0,h1⟩:=hc;refine za tf_127 ?_;have hne:¬n=0:=by omega
 unfold Go.Mor.pick;by_cases hneg:c<0
 ·rw[if_pos hneg];have w1:IntKind.i64.wrap (c+1)=c+1:=wrap64 (by omega) (by omega);have w2:IntKind.i64.wrap (0-(c+1))= -(c+1):=wG;have hm:(-(c+1)).tmod n=(-(c+1))%n:=Int.tmod_eq_emod_of_nonneg (by omega);simp only[vW,seval,hneg,hne,w1,w2,hm]
 ·rw[if_neg hneg];have hm:c.tmod n=c%n:=Int.tmod_eq_emod_of_nonneg (by omega);simp only[vW,seval,hneg,hne,hm]
def z7I(r:Option (zB)):TV:=match r with|some s=> .tuple [S (str s),B true]|none=> .tuple [S (str []),B false]
theorem z8w(g:Sh.Glob)(c:Cls)(n:Int)(t:Ty)(hn:I64 n)(hl:c.fs.length≤1000):zC g 56 [clT c,I n,tyT t] [] (z7I (z3M c n t)) []:=by
 have PN:=z48 g n 100 hn (by decide);have hb:=z0c n 100 (by decide);obtain⟨j,hj⟩:=Int.eq_ofNat_of_zero_le hb.1;rw[hj]at PN;have e0:=bS [];obtain⟨R,hR⟩:∃R,z3M c n t=R:=⟨_,rfl⟩
 rw[hR];unfold z3M at hR;rw[hj,Int.toNat_natCast]at hR;obtain⟨tk,ot⟩:=t;refine za tf_126 ?_;unfold clT tyT;simp only[vW,seval,e0];refine zk (σ:={i:Nat // i≤c.fs.length∧z7H c.fs j ⟨tk,ot⟩ (c.fs.length-i) i=R}) (fun i=>⟨[(1,I n),(3,.ptr 3 0),(5,.ptr 5 0),(8,I (i.1:Int))],[(3,[S (str c.n),.pv (.sl 4 (flR c.fs))]),(5,[I tk,I ot])],[],[]⟩) (fun i=>c.fs.length-i.1) ⟨0,Nat.zero_le _,hR⟩ ?_ ?_
 ·exact lwA
 rintro⟨i,hi,hT⟩;by_cases hlt:i<c.fs.length
 ·have d1:(i:Int)<(c.fs.length:Int):=by omega
  have w0:IntKind.i64.wrap ((j:Int)+(i:Int))=((j+i:Nat):Int):=wG;have w1:=wS i;have m0:Int.tmod ((j+i:Nat):Int) (c.fs.length:Int)=(((j+i)%c.fs.length:Nat):Int):=(Int.ofNat_tmod _ _).symm;have z0:¬(c.fs.length:Int)=0:=by omega
  have hq:=Nat.mod_lt (j+i) (show 0<c.fs.length by omega);obtain⟨f,ef⟩:∃f,c.fs[(j+i)%c.fs.length]?=some f:=⟨_,gE hq⟩
  obtain⟨k,hk⟩:∃k,c.fs.length-i=k+1:=⟨c.fs.length-i-1,by omega⟩
  rw[hk,z7H,List.getD_eq_getElem?_getD,ef]at hT;simp only[Option.getD_some]at hT;generalize(j+i)%c.fs.length=q at*;cases he:z0g f.t ⟨tk,ot⟩
  ·rw[he]at hT;simp only[Bool.false_eq_true,if_false]at hT;have he':z0g ⟨f.t.k,f.t.o⟩ ⟨tk,ot⟩=false:=he;simp only[vW,seval,d1,clV];refine z7 PN ?_;simp only[vW,seval,clV,w0,m0,z0,ef,z5d,he',w1];refine zc ⟨i+1,hlt,by rw[show c.fs.length-(i+1)=k by omega];exact hT⟩ (by show c.fs.length-(i+1)<c.fs.length-i;omega) ?_;exact lwA
  ·rw[he]at hT;simp only[if_true]at hT;subst hT;have he':z0g ⟨f.t.k,f.t.o⟩ ⟨tk,ot⟩=true:=he;unfold z7I B;simp only[vW,seval,d1,clV];refine z7 PN ?_;simp only[vW,seval,clV,w0,m0,z0,ef,z5d,he',w1]
 ·have d1:¬(i:Int)<(c.fs.length:Int):=by omega
  rw[show c.fs.length-i=0 by omega,z7H]at hT;subst hT;unfold z7I B;simp only[vW,seval,d1,clV,e0]
theorem zo4{a:zB}(h:a∈numL):a.length≤9:=by
 have:numL.all (fun a=>decide (a.length≤9))=true:=by decide
 simpa using List.all_eq_true.1 this a h
theorem zoN{a:zB}(h:a∈txtL):a.length≤9:=by
 have:txtL.all (fun a=>decide (a.length≤9))=true:=by decide
 simpa using List.all_eq_true.1 this a h
theorem zf5(g:Sh.Glob)(n:Int)(t:Ty)(c:Cls)(hn:I64 n)(hl:c.fs.length≤1000)(hc:∀f∈c.fs,f.n∈nmL):zC g 28 [I n,tyT t,clT c] [] (S (str (z5e n t c))) []:=by
 have F1:=z8w g c n ⟨1,0⟩ hn hl;have hn2:I64 (n.tdiv 2):=by
  obtain⟨h0,h1⟩:=hn;unfold I64;rcases Int.le_total 0 n with h|h
  ·rw[Int.tdiv_eq_ediv_of_nonneg h];omega
  ·have e:n= -(-n):=by omega
   rw[e,Int.neg_tdiv,Int.tdiv_eq_ediv_of_nonneg (by omega)];omega
 have F2:=z8w g c (n.tdiv 2) ⟨2,0⟩ hn2 hl;have F3:=z8w g c n t hn hl;have P8:=z48 g n 8 hn (by decide);have P3:=z48 g n 3 hn (by decide);have b8:=z0c n 8 (by decide);obtain⟨j,hj⟩:=Int.eq_ofNat_of_zero_le b8.1;have la:=zo4 (zaX hc n);have lb:=zoN (zbg hc n);have w2:IntKind.i64.wrap (n.tdiv 2)=n.tdiv 2:=wrap64 hn2.1 hn2.2;obtain⟨E,hE⟩:∃E,z5e n t c=E:=⟨_,rfl⟩
 rw[hE];unfold z5e at hE;rw[hj,Int.toNat_natCast]at hE;rw[hj]at P8;have hj8:j=0∨j=1∨j=2∨j=3∨j=4∨j=5∨j=6∨j=7:=by omega
 have q0:=bS [32,42,32,50,32,45,32,49];have q1:=bS [108,101,110,40];have q2:=bS [41];have q3:=bS [105,102,40];have q4:=bS [32,62,32,50,44,32];have q5:=bS [44,32,48,32,45,32];have q6:=bS [102,105,110,100,40,34,98,34,44,32];have q7:=bS [32,47,32];have q8:=bS [32,38,32,34,45,34,32,38,32];have q9:=bS [116,101,120,116,40];have q10:=bS [108,101,102,116,40];have q11:=bS [44,32,50,41];have q12:=bS [102,114,111,109,40];have q13:=bS [44,32,51,41];have q14:=bS [32,61,32,49,44,32];have q15:=bS [44,32,34,110,111,34,41];have q16:=bS [51];have q17:=bS [34,120,34];have q18:=bS [55];have q19:=bS [34,97,32,98,34];have q20:=bS [];obtain⟨tk,ot⟩:=t
 dsimp only at hE
 have hA:z8R c n=(z3M c n ⟨1,0⟩).getD [55]:=rfl;have hB:z9n c n=(z3M c (n.tdiv 2) ⟨2,0⟩).getD [34,97,32,98,34]:=rfl;generalize z8R c n=a at*;generalize z9n c n=b at*;refine z7x ze tf_125 rfl ?_;unfold clT tyT at*
 dsimp only at*
 generalize z3M c n ⟨1,0⟩=x at*;generalize z3M c (n.tdiv 2) ⟨2,0⟩=y at*;generalize z3M c n ⟨tk,ot⟩=z at*;have main:∀(sx sy:zB) (bx by_:Bool),z7I x=.tuple [S (str sx),.pv (.v (.bool bx))]→z7I y=.tuple [S (str sy),.pv (.v (.bool by_))]→a=(if bx then sx else [55])→b=(if by_ then sy else [34,97,32,98,34])→swp Tryz.prog g F_125.code (Post0 F_125.res (S (str E))) (startE [I n,.agg [I tk,I ot],.agg [S (str c.n),.pv (.sl 4 (flR c.fs))]] []):=by
  intro sx sy bx by_ hx hy ha hb;rw[hx]at F1;rw[hy]at F2;have zy:True:=trivial;cases bx<;>cases by_
  all_goals(
   simp only[if_true,Bool.false_eq_true,if_false]at ha hb;subst ha;subst hb;simp only[vW,seval];refine z7 F1 ?_;simp only[vW,seval,w2];refine z7 F2 ?_;by_cases t1:tk=1
   ·rw[if_pos t1]at hE;simp only[vW,seval,t1,q0,q1,q2,q3,q4,q5,q6,q7,q8,q9,q10,q11,q12,q13,q14,q15,q16,q17,q18,q19,q20];repeat(with_reducible refine And.intro (by omega) ?_)
    refine z7 P8 ?_;rcases hj8 with rfl|rfl|rfl|rfl|rfl|rfl|rfl|rfl
    all_goals(
     simp only[vW,seval];subst hE;first|rfl|simp[zfI])
   rw[if_neg t1]at hE;by_cases t2:tk=2
   ·rw[if_pos t2]at hE;simp only[vW,seval,t1,t2,q0,q1,q2,q3,q4,q5,q6,q7,q8,q9,q10,q11,q12,q13,q14,q15,q16,q17,q18,q19,q20];repeat(with_reducible refine And.intro (by omega) ?_)
    refine z7 P8 ?_;rcases hj8 with rfl|rfl|rfl|rfl|rfl|rfl|rfl|rfl
    all_goals(
     simp only[vW,seval];subst hE;first|rfl|simp[zgt])
   rw[if_neg t2]at hE;simp only[vW,seval,t1,t2,q0,q1,q2,q3,q4,q5,q6,q7,q8,q9,q10,q11,q12,q13,q14,q15,q16,q17,q18,q19,q20];cases z with
   |none=>
    unfold z7I B at F3
    dsimp only at F3 hE
    subst hE;refine z7 F3 ?_;simp only[vW,seval,q0,q1,q2,q3,q4,q5,q6,q7,q8,q9,q10,q11,q12,q13,q14,q15,q16,q17,q18,q19,q20]
   |some s=>
    unfold z7I B at F3
    dsimp only at F3 hE
    refine z8 F3 ?_;refine z7 P3 ?_;by_cases p0:0<Go.Mor.pick n 3
    ·rw[if_pos p0]at hE;subst hE;simp only[vW,seval,p0]
    ·rw[if_neg p0]at hE;subst hE;simp only[vW,seval,p0,q0,q1,q2,q3,q4,q5,q6,q7,q8,q9,q10,q11,q12,q13,q14,q15,q16,q17,q18,q19,q20])
 cases x with
 |none=>cases y with
  |none=>exact main [] [] false false rfl rfl hA hB
  |some s2=>exact main [] s2 false true rfl rfl hA hB
 |some s1=>cases y with
  |none=>exact main s1 [] true false rfl rfl hA hB
  |some s2=>exact main s1 s2 true true rfl rfl hA hB
theorem zeW{c:Cls}(h:zd c=true):ClsOk c∧c.fs.length≤8:=by
 have hr:=(z0X c).1 h;have key:∀s,zb s=true→z0B s:=fun s hs=>by
  unfold zb at hs;simp only[Bool.and_eq_true,decide_eq_true_eq]at hs;have:=hs.1.1.2;unfold z0B;omega
 refine⟨⟨key _ hr.1,fun f hf=>key _ ?_,by omega⟩,hr.2.1⟩;have:=hr.2.2.1 f hf;unfold zD at this;simp only[Bool.and_eq_true]at this;exact this.1.1
theorem zph:I64 0:=⟨by decide,by decide⟩
theorem zlM{i:Nat}(h:i<6):([[PV.v (.string ⟨#[110,101,119,95,49]⟩)],[.v (.string ⟨#[109,111,114,101]⟩)],[.v (.string ⟨#[122,57]⟩)],[.v (.string ⟨#[97]⟩)],[.v (.string ⟨#[110,97,109,101]⟩)],[.v (.string ⟨#[107,105,100,115]⟩)]]:List (List PV))[i]?=some [.v (.string (str (nmH (i:Int))))]:=by
 have:i=0∨i=1∨i=2∨i=3∨i=4∨i=5:=by omega
 rcases this with rfl|rfl|rfl|rfl|rfl|rfl<;>rfl
theorem zg9{s:zB}(h:s=[]∨s∈exL):RTx s:=by
 rcases h with rfl|h
 ·exact⟨⟨(V.nil,0,50),by kernel_rfl⟩,fun h=>absurd rfl h⟩
 ·obtain⟨_,h2,r,hr,_⟩:=zhG h;exact⟨⟨r,hr⟩,(za6 0 hr (by omega)).sm⟩
theorem zng(g:Sh.Glob)(x:RawH)(c:Cls)(hx:RawHOk x)(hg:zd c=true)(hn:∀f∈c.fs,f.n∈nmL):zC g 8 [zjI x,clT c] [] (.tuple [chT (z3u x c),B (okV c (z3u x c))]) []:=by
 have hc6:=(zeW hg).2;have hcl:=(zeW hg).1;have hin:=zeQ x hn;have sh:∀s:zB,s.length≤20→z0B s:=fun s h=>by unfold z0B;omega
 have HR:=z95 g c (z3u x c) hcl (sh _ hin.f) (sh _ hin.n) (sh _ hin.m) (zg9 hin.x) (zg9 hin.o);have HC:=z6R g ⟨0,[⟨0,x.t.k,x.t.o,false⟩]⟩ ⟨zph,fun r hr=>by obtain rfl:=List.mem_singleton.1 hr;exact⟨zph,hx.tk,hx.ot⟩,by simp⟩;have hcf:z0x ⟨0,[⟨0,x.t.k,x.t.o,false⟩]⟩=⟨nmC 0,[⟨nmF 0,tyH x.t,false⟩]⟩:=rfl;rw[hcf]at HC;have PK:=z48 g x.k 6 hx.k (by decide);have PN:=z48 g x.n 6 hx.n (by decide);have PM:=z48 g x.m 6 hx.m (by decide);have bk:=z0c x.k 6 (by decide);have bn:=z0c x.n 6 (by decide);have bm:=z0c x.m 6 (by decide);have E1:=zf5 g x.x (tyH x.t) c hx.x (by omega) hn;have E2:=zf5 g x.o (tyH x.t) c hx.o (by omega) hn;obtain⟨jn,hjn⟩:=Int.eq_ofNat_of_zero_le bn.1;obtain⟨jm,hjm⟩:=Int.eq_ofNat_of_zero_le bm.1;have en:=zlM (i:=jn) (by omega);have em:=zlM (i:=jm) (by omega);have e0:=bS [];obtain⟨h,hh⟩:∃h,z3u x c=h:=⟨_,rfl⟩
 rw[hh]at HR ⊢;unfold z3u at hh;rw[hjn,hjm]at hh;rw[hjn]at PN;rw[hjm]at PM;have wk:IntKind.i64.wrap (1+Go.Mor.pick x.k 6)=1+Go.Mor.pick x.k 6:=wrap64 (by omega) (by omega);clear hin
 dsimp only at hh
 generalize Go.Mor.pick x.k 6=k at*;generalize nmH (jn:Int)=nn at*;generalize nmH (jm:Int)=mm at*;generalize z5e x.x (tyH x.t) c=xx at*;generalize z5e x.o (tyH x.t) c=oo at*;generalize tyH x.t=t at*;obtain⟨tk,ot⟩:=t;generalize hfn:(if c.fs=[] then [] else(c.fs.getD (Go.Mor.pick x.f c.fs.length).toNat z4B).n)=fn at hh;generalize hR:okV c h=R at*;have hk:k=0∨k=1∨k=2∨k=3∨k=4∨k=5:=by omega
 refine za tf_124 ?_;unfold zjI clT tyT B zfZ at*;simp only[vW,seval];refine z7 HC ?_;simp only[vW,seval,clV];refine z7 PK ?_;simp only[vW,seval,wk];refine z7 PN ?_;simp only[vW,seval,en];refine z7 PM ?_;simp only[vW,seval,em];refine z8 E1 ?_;refine z7 E2 ?_;have hfs:(c.fs=[]∧fn=[]∧¬(0:Int)<(c.fs.length:Int))∨(∃(j:Nat) (y:Fld),(0:Int)<(c.fs.length:Int)∧zC g 27 [I x.f,I (c.fs.length:Int)] [] (I (j:Int)) []∧c.fs[j]?=some y∧fn=y.n):=by
  by_cases h0:c.fs=[]
  ·rw[if_pos h0]at hfn;exact .inl ⟨h0,hfn.symm,by rw[h0];decide⟩
  ·have hlp:0<c.fs.length:=List.length_pos_iff.2 h0;have d0:(0:Int)<(c.fs.length:Int):=by omega
   have PF:=z48 g x.f (c.fs.length:Int) hx.f d0;have bf:=z0c x.f (c.fs.length:Int) d0;obtain⟨j,hj⟩:=Int.eq_ofNat_of_zero_le bf.1;rw[hj]at PF;obtain⟨y,ey⟩:∃y,c.fs[j]?=some y:=⟨_,gE (by omega)⟩
   rw[if_neg h0,hj,Int.toNat_natCast,Go.Mor.getD_of ey]at hfn;exact .inr ⟨j,y,d0,PF,ey,hfn.symm⟩
 clear hfn;rcases hk with rfl|rfl|rfl|rfl|rfl|rfl
 ·obtain rfl:h=⟨1,[],nn,[],⟨tk,ot⟩,xx,[]⟩:=by rw[←hh];rfl
  clear hh;rcases hfs with⟨h0,rfl,d0⟩|⟨j,y,d0,PF,ey,rfl⟩
  ·unfold chT at*;try unfold ty0 at*
   simp only[vW,seval,d0,e0,clV];refine z8 HR ?_;try trivial
  ·unfold chT at*;try unfold ty0 at*
   simp only[vW,seval,d0,clV];refine z7 PF ?_;simp only[vW,seval,clV,ey,e0];refine z8 HR ?_;try trivial
 ·obtain rfl:h=⟨2,fn,[],[],ty0,[],[]⟩:=by rw[←hh];rfl
  clear hh;rcases hfs with⟨h0,rfl,d0⟩|⟨j,y,d0,PF,ey,rfl⟩
  ·unfold chT at*;try unfold ty0 at*
   simp only[vW,seval,d0,e0,clV];refine z8 HR ?_;try trivial
  ·unfold chT at*;try unfold ty0 at*
   simp only[vW,seval,d0,clV];refine z7 PF ?_;simp only[vW,seval,clV,ey,e0];refine z8 HR ?_;try trivial
 ·obtain rfl:h=⟨3,fn,nn,[],ty0,[],[]⟩:=by rw[←hh];rfl
  clear hh;rcases hfs with⟨h0,rfl,d0⟩|⟨j,y,d0,PF,ey,rfl⟩
  ·unfold chT at*;try unfold ty0 at*
   simp only[vW,seval,d0,e0,clV];refine z8 HR ?_;try trivial
  ·unfold chT at*;try unfold ty0 at*
   simp only[vW,seval,d0,clV];refine z7 PF ?_;simp only[vW,seval,clV,ey,e0];refine z8 HR ?_;try trivial
 ·obtain rfl:h=⟨4,fn,[],[],⟨tk,ot⟩,xx,[]⟩:=by rw[←hh];rfl
  clear hh;rcases hfs with⟨h0,rfl,d0⟩|⟨j,y,d0,PF,ey,rfl⟩
  ·unfold chT at*;try unfold ty0 at*
   simp only[vW,seval,d0,e0,clV];refine z8 HR ?_;try trivial
  ·unfold chT at*;try unfold ty0 at*
   simp only[vW,seval,d0,clV];refine z7 PF ?_;simp only[vW,seval,clV,ey,e0];refine z8 HR ?_;try trivial
 ·obtain rfl:h=⟨5,fn,nn,mm,⟨tk,ot⟩,xx,oo⟩:=by rw[←hh];rfl
  clear hh;rcases hfs with⟨h0,rfl,d0⟩|⟨j,y,d0,PF,ey,rfl⟩
  ·unfold chT at*;try unfold ty0 at*
   simp only[vW,seval,d0,e0,clV];refine z8 HR ?_;try trivial
  ·unfold chT at*;try unfold ty0 at*
   simp only[vW,seval,d0,clV];refine z7 PF ?_;simp only[vW,seval,clV,ey,e0];refine z8 HR ?_;try trivial
 ·obtain rfl:h=⟨6,fn,[],[],ty0,[],[]⟩:=by rw[←hh];rfl
  clear hh;rcases hfs with⟨h0,rfl,d0⟩|⟨j,y,d0,PF,ey,rfl⟩
  ·unfold chT at*;try unfold ty0 at*
   simp only[vW,seval,d0,e0,clV];refine z8 HR ?_;try trivial
  ·unfold chT at*;try unfold ty0 at*
   simp only[vW,seval,d0,clV];refine z7 PF ?_;simp only[vW,seval,clV,ey,e0];refine z8 HR ?_;try trivial
end Go.Proofs.YtpmlapgbmgbilaaGreatDoor
end
