/- Merged texts: S8 S9. No statement of the program is proved here. -/
import Derived.Test.YtbkgnekfigknhaaGreatDoorR3
set_option linter.unusedSimpArgs false
set_option linter.unusedVariables false
set_option maxRecDepth 100000
set_option maxHeartbeats 8000000
section
namespace Go.Sh
open Go Go.RowKit
section
section
variable{B:Base}{s:FS}{a:Act}{w w':World}{E E':Env}{P:Program}{I:List Nat}
def zqI(s:FS)(w:World)(E:Env)(i b:Nat):Prop:=w.heap.size≤b∨∃cs,s.b i=some cs∧E.β i=b
def zqK(s:FS)(w:World)(E:Env)(i b:Nat):Prop:=w.heap.size≤b∨∃q cap,s.r i=some q∧E.γ i=some (b,cap)
theorem z6t(h:Sim B s a w E)(hI:I.Nodup){k:Nat}(hm0:B.m≤1000)(hfr:∀q<4,z0I s (newId k q)){os os':List MO}(hos:seqO (fun d=>(s.mo d).bind (MO.ren (rhoIn I))) I=some os)
  (hok:moOk os os'=true) {us:List (Nat×MO)} (hus:outs (rhoOut I k) 0 os'=some us) (hm:MSim (start w (zz E I) os 0) (z0k os') (zx os') w' E') (hl:Left (zz E I) os E' os') (dst:Option Nat):
  Sim B (s.upd dst (.mem us)) a w' (z0T E E' I k)∧RenOk E' (zx os') (rhoOut I k) (z0T E E' I k) (s.upd dst (.mem us)).r:=by
 obtain⟨hlen,hB,hR⟩:=z4v hos;obtain⟨ok1,ok2,ok3,ok4⟩:=z5p hok;have hn:∀q<4,newId k q∉I:=fun q hq hmem=>by
  obtain⟨j,hj⟩:=List.getElem?_of_mem hmem;obtain⟨y,_,hy⟩:=(z06 hos).2 j _ hj;obtain⟨_,h2,h3,_⟩:=hfr q hq;simp[FS.mo,h2,h3]at hy
 obtain⟨o1,o2⟩:=z6D hus;simp only[Nat.zero_add]at o1 o2;have hback:∀{d i},rhoOut I k d=some i→z1r I k i=some d:=fun hd=>zmr hI hn hd;have hL:∀{i m'},us.lookup i=some m'→∃(q:Nat) (m:MO),os'[q]?=some m∧z1r I k i=some (1000+q)∧rhoOut I k (1000+q)=some i∧m.ren (rhoOut I k)=some m':=fun hi=>by
  obtain⟨q,m,a1,a2,a3⟩:=o1 _ _ hi;exact⟨q,m,a1,hback a2,a2,a3⟩
 have hposIn:∀{i},i∈I→∃j,I[j]?=some i∧pos I i=some j∧z1r I k i=some (1000+j)∧j<os.length:=fun {i} hi=>by
  obtain⟨j,hj⟩:=List.getElem?_of_mem hi;have hp:=z4k hI hj;exact⟨j,hj,hp,by simp[z1r,hp],by rw[←hlen];exact(gJ hj).1⟩
 have hLin:∀{i},i∈I→∃m',us.lookup i=some m':=fun {i} hi=>by
  obtain⟨j,h1,h2,h3,h4⟩:=hposIn hi;obtain⟨i',m',b1,b2,b3⟩:=o2 j _ (gE (show j<os'.length by omega));have:rhoOut I k (1000+j)=some i:=(z7S h3).1;rw[this]at b1;cases b1;exact ze4 b3
 have hold:∀i,(∀q<4,i≠newId k q)→i∉I→z1r I k i=none:=fun i h1 h2=>by
  unfold z1r;cases hp:pos I i with
  |some j=>exact absurd (gM (z3s hp)) h2
  |none=>
   cases hq:z5O k i with
   |none=>rfl
   |some q=>obtain⟨e,hq⟩:=z7O hq;exact absurd e (h1 q hq)
 have hmold:∀{i},s.ment i→∀q<4,i≠newId k q:=fun hi q hq e=>(hfr q hq).1 (e▸hi);have hbold:∀{i cs},s.b i=some cs→∀q<4,i≠newId k q:=fun hi q hq e=>by have:=(hfr q hq).2.1;rw[←e,hi]at this;cases this
 have hrold:∀{i x},s.r i=some x→∀q<4,i≠newId k q:=fun hi q hq e=>by have:=(hfr q hq).2.2.1;rw[←e,hi]at this;cases this
 have hβ:∀{i},(∀q<4,i≠newId k q)→(z0T E E' I k).β i=E.β i:=fun {i} hi=>by
  by_cases hmem:i∈I
  ·obtain⟨j,h1,h2,h3,h4⟩:=hposIn hmem;simp only[z0T,h3];rw[hl.beta (1000+j) (by omega) (by omega)];simp only[zz];rw[getD_of h1]
  ·simp only[z0T,hold i hi hmem]
 have hγout:∀{i},(∀q<4,i≠newId k q)→i∉I→(z0T E E' I k).γ i=E.γ i:=fun {i} hi hmem=>by simp only[z0T,hold i hi hmem]
 have hγin:∀{i j},I[j]?=some i→(zz E I).γ (1000+j)=E.γ i:=fun hj=>by simp only[zz];rw[getD_of hj]
 have hβin:∀{i j},I[j]?=some i→(zz E I).β (1000+j)=E.β i:=fun hj=>by simp only[zz];rw[getD_of hj]
 have hγbox:∀{i},(∀q<4,i≠newId k q)→(∀e W n,us.lookup i≠some (.row e W n))→(z0T E E' I k).γ i=E.γ i:=fun {i} hi hnr=>by
  by_cases hmem:i∈I
  ·obtain⟨j,h1,h2,h3,h4⟩:=hposIn hmem;obtain⟨m',hm'⟩:=hLin hmem;obtain⟨q,m,a1,a2,a3,a4⟩:=hL hm';have hq:q=j:=by rw[h3]at a2;have:=Option.some.inj a2;omega
   subst hq;have hrn:zx os (1000+q)=none:=by
    cases hx:zx os (1000+q)with
    |none=>rfl
    |some x=>
     obtain⟨e,W,n⟩:=x;obtain⟨j',hj',hj2⟩:=z0V hx;obtain rfl:q=j':=by omega
     obtain⟨n',hn',_⟩:=ok4 q e W n hj2;rw[hn']at a1;cases a1;simp only[MO.ren]at a4;cases a4;exact absurd hm' (hnr _ _ _)
   simp only[z0T,h3];rw[hl.gamma (1000+q) (by omega) (by omega) hrn];exact hγin h1
  ·exact hγout hi hmem
 have hren:RenOk E' (zx os') (rhoOut I k) (z0T E E' I k) (s.upd dst (.mem us)).r:=by
  refine⟨fun d i hd=> ?_⟩;have hb:=hback hd;refine⟨by simp only[z0T,hb],by simp only[z0T,hb],fun q hq=> ?_⟩;obtain⟨e,W,n⟩:=q;obtain⟨j,rfl⟩:∃j,d=1000+j:=⟨d-1000,by have:=(z7S hb).2;omega⟩
  simp only[FS.upd,z6U]at hq;split at hq
  ·rename_i e' W' n' hlk;cases hq;obtain⟨q,m,a1,a2,a3,a4⟩:=hL hlk;rw[hb]at a2;obtain rfl:j=q:=by have:=Option.some.inj a2;omega
   cases m with
   |box cs=>simp only[MO.ren]at a4;obtain⟨_,_,h6⟩:=gO a4;cases h6
   |row e W n=>simp only[MO.ren]at a4;cases a4;exact z2d a1
  ·rename_i hnr;exfalso;by_cases hmem:i∈I
   ·obtain⟨j',h1,h2,h3,h4⟩:=hposIn hmem;obtain⟨m',hm'⟩:=hLin hmem;obtain⟨q,m,a1,a2,a3,a4⟩:=hL hm';obtain rfl:j'=q:=by rw[h3]at a2;have:=Option.some.inj a2;omega
    cases hx:os[j']with
    |box cs=>
     obtain⟨i',c,b1,b2,b3,b4⟩:=hB j' cs (by rw[←hx];exact gE h4);rw[h1]at b1;cases b1;rw[b4]at hq;cases hq
    |row e0 W0 n0=>
     obtain⟨n',hn',_⟩:=ok4 j' e0 W0 n0 (by rw[←hx];exact gE h4);rw[hn']at a1;cases a1;simp only[MO.ren]at a4;cases a4;exact hnr _ _ _ hm'
   ·have hnew:∃q,q<4∧i=newId k q:=by
     unfold z1r at hb;cases hp:pos I i with
     |some j=>exact absurd (gM (z3s hp)) hmem
     |none=>
      rw[hp]at hb;obtain⟨q,h1,_⟩:=gO hb;obtain⟨e,hq'⟩:=z7O h1;exact⟨q,hq',e⟩
    obtain⟨q,hq1,rfl⟩:=hnew;rw[(hfr q hq1).2.2.1]at hq;cases hq
 refine⟨?_,hren⟩;have hk:∀b o u,E.K b o→w.cell? ⟨b,o,none⟩=some u→(z0T E E' I k).K b o∧w'.cell? ⟨b,o,none⟩=some u:=hm.keep;have hrr:∀d e W n,s.ment d→(s.upd dst (.mem us)).r d=some (e,W,n)→(s.r d=some (e,W,n)∧(z0T E E' I k).γ d=E.γ d)∨(∃m,s.r d=some (e,W,m)∧m<n):=by
  intro d e W n hd hr;simp only[FS.upd,z6U]at hr;split at hr
  ·rename_i e' W' n' hlk;cases hr;obtain⟨q,m,a1,a2,a3,a4⟩:=hL hlk;have hmem:d∈I:=by
    apply Classical.byContradiction;intro hno;rw[hold d (hmold hd) hno]at a2;cases a2
   obtain⟨j,h1,h2,h3,h4⟩:=hposIn hmem;obtain rfl:j=q:=by rw[h3]at a2;have:=Option.some.inj a2;omega
   cases m with
   |box cs=>simp only[MO.ren]at a4;obtain⟨_,_,h6⟩:=gO a4;cases h6
   |row e1 W1 n1=>
    simp only[MO.ren]at a4;cases a4;cases hx:os[j]with
    |box cs=>
     obtain⟨cs',hcs'⟩:=ok3 j cs (by rw[←hx];exact gE h4);rw[hcs']at a1;cases a1
    |row e0 W0 n0=>
     have hxo:os[j]?=some (.row e0 W0 n0):=by rw[←hx];exact gE h4
     obtain⟨i',b1,b2,b3⟩:=hR j e0 W0 n0 hxo;rw[h1]at b1;cases b1;obtain⟨n',c1,c2,c3⟩:=hl.row (1000+j) e0 W0 n0 (z2d hxo);rw[z2d a1]at c1;have c1':=Option.some.inj c1;simp only[Prod.mk.injEq]at c1';obtain⟨rfl,rfl,rfl⟩:=c1';rcases Nat.lt_or_ge n0 n with hlt|hge
     ·exact .inr ⟨n0,b3,hlt⟩
     ·obtain rfl:n0=n:=by omega
      refine .inl ⟨b3,?_⟩;simp only[z0T,h3];rw[c3 rfl];exact hγin h1
  ·rename_i hnr;exact .inl ⟨hr,hγbox (hmold hd) (fun e W n=>hnr e W n)⟩
 have hXbox:∀{d b},z1W (zz E I) os d b→(∃i cs,s.b i=some cs∧i∈I∧E.β i=b)∨(∃i q cap,s.r i=some q∧i∈I∧s.b i=none∧E.γ i=some (b,cap)):=by
  intro d b hx;rcases hx with⟨cs,h1,h2⟩|⟨⟨e,W,n⟩,cap,h1,h2⟩
  ·obtain⟨j,rfl,hj⟩:=z2s h1;obtain⟨i,c,b1,b2,_⟩:=hB j cs hj;exact .inl ⟨i,c,b2,gM b1,by rw[←hβin b1];exact h2⟩
  ·obtain⟨j,rfl,hj⟩:=z0V h1;obtain⟨i,b1,b2,b3⟩:=hR j e W n hj;exact .inr ⟨i,_,cap,b3,gM b1,b2,by rw[←hγin b1];exact h2⟩
 have hrowlt:∀{i q b cap},s.r i=some q→E.γ i=some (b,cap)→∃c e,w.heap[b]?=some (.cells c e (0,0)):=by
  intro i q b cap h1 h2;rcases h.mem.row i q.1 q.2.1 q.2.2 h1 with⟨h3,_⟩|⟨b',c',h3,_,h5⟩
  ·rw[h3]at h2;cases h2
  ·rw[h3]at h2;cases h2;obtain⟨cur,hc,_⟩:=h5.cells;exact⟨cur,_,hc⟩
 have hmaps:Maps w w':=by
  intro b o hk9 hb;have hlt:=(gA hb).1;refine(hm.low.block b hlt (fun d hx=> ?_)).trans hb;rcases hXbox hx with⟨i,cs,b1,_,b3⟩|⟨i,q,cap,b1,_,_,b3⟩
  ·obtain⟨c',e',z',ho⟩:=(h.mem.box i cs b1).1.obj;rw[b3,hb]at ho;cases ho;cases hk9
  ·obtain⟨c',e',ho⟩:=hrowlt b1 b3;rw[hb]at ho;cases ho;cases hk9
 have hmono:∀{x:TV} {v:Value},(∀d,Ment d x→s.ment d)→RelT w E s.r x v→RelT w' (z0T E E' I k) (s.upd dst (.mem us)).r x v:=fun hx hv=>
  hv.mono hk (fun d hd=>⟨hβ (hmold (hx d hd)),rfl⟩) (fun d e W n hd=>hrr d e W n (hx d hd)) hmaps
 have hboxsame:∀{i cs},s.b i=some cs→i∉I→∀d,¬z1W (zz E I) os d (E.β i):=by
  intro i cs h1 h2 d hx;rcases hXbox hx with⟨i',c,b1,b2,b3⟩|⟨i',q,cap,b1,b2,_,b3⟩
  ·have:=h.mem.bb i' i _ _ b1 h1 b3;subst this;exact h2 b2
  ·exact h.mem.br i i' _ _ _ cap h1 b1 b3 rfl
 have hrowsame:∀{i q b cap},s.r i=some q→(i∉I∨∃cs,s.b i=some cs)→E.γ i=some (b,cap)→∀d,¬z1W (zz E I) os d b:=by
  intro i q b cap h1 h2 h3 d hx;rcases hXbox hx with⟨i',c,b1,b2,b3⟩|⟨i',q',cap',b1,b2,b4,b3⟩
  ·exact h.mem.br i' i _ _ _ cap b1 h1 h3 b3
  ·have:=h.mem.rr i i' _ _ _ _ _ h1 b1 h3 b3;subst this;rcases h2 with h2|⟨cs,h2⟩
   ·exact h2 b2
   ·rw[h2]at b4;cases b4
 have hboxI:∀{i cs'},(s.upd dst (.mem us)).b i=some cs'→(∃(q:Nat) (c0:List TV),os'[q]?=some (.box c0)∧rhoOut I k (1000+q)=some i∧seqO (TV.ren1 (rhoOut I k)) c0=some cs'∧(z0T E E' I k).β i=E'.β (1000+q))∨(s.b i=some cs'∧i∉I∧(z0T E E' I k).β i=E.β i):=by
  intro i cs' hi;simp only[FS.upd,z8H]at hi;split at hi
  ·rename_i c hlk;cases hi;obtain⟨q,m,a1,a2,a3,a4⟩:=hL hlk;cases m with
   |row e W n=>simp[MO.ren]at a4
   |box c0=>
    simp only[MO.ren]at a4;obtain⟨l,h6,h7⟩:=gO a4;cases h7;exact .inl ⟨q,c0,a1,a3,h6,by simp only[z0T,a2]⟩
  ·rename_i hnb;refine .inr ⟨hi,fun hmem=> ?_,hβ (hbold hi)⟩;obtain⟨m',hm'⟩:=hLin hmem;obtain⟨j,h1,h2,h3,h4⟩:=hposIn hmem;obtain⟨q,m,a1,a2,a3,a4⟩:=hL hm';obtain rfl:j=q:=by rw[h3]at a2;have:=Option.some.inj a2;omega
   cases hx:os[j]with
   |row e0 W0 n0=>
    obtain⟨i',b1,b2,b3⟩:=hR j e0 W0 n0 (by rw[←hx];exact gE h4);rw[h1]at b1;cases b1;rw[hi]at b2;cases b2
   |box cs=>
    obtain⟨cs2,hcs2⟩:=ok3 j cs (by rw[←hx];exact gE h4);rw[hcs2]at a1;cases a1;simp only[MO.ren]at a4;obtain⟨l,h6,h7⟩:=gO a4;subst h7;exact hnb _ hm'
 have hrowI:∀{i e W n},(s.upd dst (.mem us)).r i=some (e,W,n)→(∃q:Nat,os'[q]?=some (.row e W n)∧rhoOut I k (1000+q)=some i∧(z0T E E' I k).γ i=E'.γ (1000+q))∨(s.r i=some (e,W,n)∧(i∉I∨∃cs,s.b i=some cs)∧(z0T E E' I k).γ i=E.γ i):=by
  intro i e W n hi;simp only[FS.upd,z6U]at hi;split at hi
  ·rename_i e' W' n' hlk;cases hi;obtain⟨q,m,a1,a2,a3,a4⟩:=hL hlk;cases m with
   |box c0=>simp only[MO.ren]at a4;obtain⟨_,_,h6⟩:=gO a4;cases h6
   |row e1 W1 n1=>
    simp only[MO.ren]at a4;cases a4;exact .inl ⟨q,a1,a3,by simp only[z0T,a2]⟩
  ·rename_i hnr;refine .inr ⟨hi,?_,hγbox (hrold hi) (fun e W n=>hnr e W n)⟩;by_cases hmem:i∈I
   ·right;obtain⟨m',hm'⟩:=hLin hmem;obtain⟨j,h1,h2,h3,h4⟩:=hposIn hmem;obtain⟨q,m,a1,a2,a3,a4⟩:=hL hm';obtain rfl:j=q:=by rw[h3]at a2;have:=Option.some.inj a2;omega
    cases hx:os[j]with
    |box cs=>
     obtain⟨i',c,b1,b2,_⟩:=hB j cs (by rw[←hx];exact gE h4);rw[h1]at b1;cases b1;exact⟨c,b2⟩
    |row e0 W0 n0=>
     obtain⟨n',hn',_⟩:=ok4 j e0 W0 n0 (by rw[←hx];exact gE h4);rw[hn']at a1;cases a1;simp only[MO.ren]at a4;cases a4;exact absurd hm' (hnr _ _ _)
   ·exact .inl hmem
 have hboxW:∀{q:Nat} {c0 i},os'[q]?=some (.box c0)→rhoOut I k (1000+q)=some i→zqI s w E i (E'.β (1000+q)):=by
  intro q c0 i h1 h2;rcases(hm.box (1000+q) c0 (z7k h1)).2 with h3|h3
  ·exact .inl h3
  ·right;rcases h3 with⟨cs,h4,h5⟩|⟨⟨e,W,n⟩,cap,h4,h5⟩
   ·obtain⟨j,hj,hj2⟩:=z2s h4;obtain rfl:q=j:=by omega
    obtain⟨i',c,b1,b2,_⟩:=hB q cs hj2;have:z1r I k i'=some (1000+q):=by simp[z1r,z4k hI b1]
    have:=(z7S this).1;rw[h2]at this;cases this;exact⟨c,b2,by rw[←h5];exact(hβin b1).symm⟩
   ·obtain⟨j,hj,hj2⟩:=z0V h4;obtain rfl:q=j:=by omega
    obtain⟨n',hn',_⟩:=ok4 q e W n hj2;rw[h1]at hn';cases hn'
 have hrowW:∀{q e W n i b cap:Nat},os'[q]?=some (.row e W n)→rhoOut I k (1000+q)=some i→E'.γ (1000+q)=some (b,cap)→zqK s w E i b:=by
  intro q e W n i b cap h1 h2 h0;rcases hm.row (1000+q) e W n (z2d h1)with⟨h3,_⟩|⟨b',c',h3,h4,_⟩
  ·rw[h3]at h0;cases h0
  ·rw[h3]at h0;cases h0;rcases h4 with h4|h4
   ·exact .inl h4
   ·right;rcases h4 with⟨cs,h5,h6⟩|⟨⟨e1,W1,n1⟩,cap',h5,h6⟩
    ·obtain⟨j,hj,hj2⟩:=z2s h5;obtain rfl:q=j:=by omega
     obtain⟨cs',hn'⟩:=ok3 q cs hj2;rw[h1]at hn';cases hn'
    ·obtain⟨j,hj,hj2⟩:=z0V h5;obtain rfl:q=j:=by omega
     obtain⟨i',b1,b2,b3⟩:=hR q e1 W1 n1 hj2;have:z1r I k i'=some (1000+q):=by simp[z1r,z4k hI b1]
     have:=(z7S this).1;rw[h2]at this;cases this;exact⟨_,cap',b3,by rw[←h6];exact(hγin b1).symm⟩
 have hw0:=h.mem.low.size;have hdd:∀{q q' i:Nat},rhoOut I k (1000+q)=some i→rhoOut I k (1000+q')=some i→q=q':=fun h1 h2=>by
  have a1:=hback h1;rw[hback h2]at a1;have:=Option.some.inj a1;omega
 have hoold:∀{d},B.old d→∀q<4,d≠newId k q:=fun ho q hq e=>by have:=ho.2;unfold newId at e;omega
 have hXlow:∀{d b},z1W (zz E I) os d b→B.w0.heap.size≤b∨∃d,B.X d b:=by
  intro d b hx;rcases hXbox hx with⟨i',c,b1,b2,b3⟩|⟨i',q,cap,b1,b2,_,b3⟩
  ·rcases(h.mem.box i' c b1).2 with h1|h1
   ·rw[b3]at h1;exact .inl h1
   ·rw[b3]at h1;exact .inr ⟨_,h1⟩
  ·rcases h.mem.row i' q.1 q.2.1 q.2.2 b1 with⟨h3,_⟩|⟨b',c',h3,h4,_⟩
   ·rw[h3]at b3;cases b3
   ·rw[h3]at b3;cases b3;rcases h4 with h4|h4
    ·exact .inl h4
    ·exact .inr ⟨_,h4⟩
 refine h.step rfl ⟨fun i cs' hi=> ?_,fun i e W n hi=> ?_,fun i i' cs cs' e1 e2 e3=> ?_,fun i i' cs q b cap e1 e2 e3=> ?_,fun i i' q q' b cap cap' e1 e2 e3 e4=> ?_,hm.lt,?_,fun b o u h1 h2=> ?_,fun b o h1=> ?_,⟨fun d ho=>(hβ (hoold ho)).trans (h.mem.pas.β d ho),fun d ho h0=> ?_,fun d e W n ho hd=> ?_⟩⟩ hk (fun d hd=>⟨hβ (hmold hd),rfl⟩) (fun d e W n hd=>hrr d e W n hd) (fun d z p hd=> ?_) h.ii hmaps
 ·rcases hboxI hi with⟨q,c0,a1,a2,a3,a4⟩|⟨a1,a2,a3⟩
  ·rw[a4];obtain⟨b1,b2⟩:=hm.box (1000+q) c0 (z7k a1);refine⟨⟨b1.lt,b1.obj,b1.fz,fun j c hc=> ?_,b1.out⟩,?_⟩
   ·obtain⟨l1,l2⟩:=z06 a3;have hj:j<c0.length:=by rw[l1];exact(gJ hc).1
    obtain⟨z,z1,z2⟩:=l2 j c0[j] (gE hj);rw[hc]at z1;cases z1;obtain⟨v,c1,c2,c3⟩:=b1.cell j c0[j] (gE hj);exact⟨v,c1,c2,z7Z hren (fun _ _ _ h _=>h) c3 z2⟩
   ·rcases hboxW a1 a2 with h1|⟨cs,h1,h2⟩
    ·exact .inl (by omega)
    ·rw[←h2];exact(h.mem.box i cs h1).2
  ·rw[a3];obtain⟨b1,b2⟩:=h.mem.box i cs' a1;have hsame:w'.heap[E.β i]?=w.heap[E.β i]?:=hm.low.block _ b1.lt (hboxsame a1 a2);refine⟨⟨Nat.lt_of_lt_of_le b1.lt hm.low.size,by rw[hsame];exact b1.obj,fun o=>(World.frozen?_of_block (w:=w) (a:=⟨E.β i,o,none⟩) hsame).trans (b1.fz o),fun j c hc=> ?_,fun o ho=> ?_⟩,b2⟩
   ·obtain⟨v,c1,c2,c3⟩:=b1.cell j c hc;exact⟨v,(World.cell?_of_block (w:=w) (a:=⟨E.β i,j,none⟩) hsame).trans c1,c2,hmono (fun d hd=> .inr ⟨i,cs',c,a1,gM hc,hd⟩) c3⟩
   ·rcases hm.knew _ _ ho with h1|h1|⟨d,h1⟩
    ·exact b1.out o h1
    ·have:=b1.lt;have h1:w.heap.size≤E.β i:=h1;omega
    ·exact hboxsame a1 a2 d h1
 ·rcases hrowI hi with⟨q,a1,a2,a3⟩|⟨a1,a2,a3⟩
  ·rw[a3];rcases hm.row (1000+q) e W n (z2d a1)with h1|⟨b,cap,h1,h2,h3⟩
   ·exact .inl h1
   ·refine .inr ⟨b,cap,h1,?_,h3.cells,h3.le,h3.max,h3.out⟩;rcases hrowW a1 a2 h1 with h4|⟨q0,cap0,h4,h5⟩
    ·exact .inl (by omega)
    ·rcases h.mem.row i q0.1 q0.2.1 q0.2.2 h4 with⟨h6,_⟩|⟨b',c',h6,h7,_⟩
     ·rw[h6]at h5;cases h5
     ·rw[h6]at h5;cases h5;exact h7
  ·rw[a3];rcases h.mem.row i e W n a1 with h1|⟨b,cap,h1,h2,h3⟩
   ·exact .inl h1
   ·obtain⟨cur,hc,hs⟩:=h3.cells;have hlt:=(gA hc).1;have hX:=hrowsame a1 a2 h1;refine .inr ⟨b,cap,h1,h2,⟨cur,(hm.low.block b hlt hX).trans hc,hs⟩,h3.le,h3.max,fun o ho=> ?_⟩;rcases hm.knew _ _ ho with h4|h4|⟨d,h4⟩
    ·exact h3.out o h4
    ·have h4:w.heap.size≤b:=h4;omega
    ·exact absurd h4 (hX d)
 ·rcases hboxI e1 with⟨q,c0,a1,a2,a3,a4⟩|⟨a1,a2,a3⟩<;>rcases hboxI e2 with⟨q',c0',b1,b2,b3,b4⟩|⟨b1,b2,b3⟩
  ·rw[a4,b4]at e3;have:=hm.bb _ _ _ _ (z7k a1) (z7k b1) e3;obtain rfl:q=q':=by omega
   rw[a2]at b2;exact Option.some.inj b2
  ·rw[a4,b3]at e3;have:=(h.mem.box i' _ b1).1.lt;rcases hboxW a1 a2 with h1|⟨c,h1,h2⟩
   ·omega
   ·exact h.mem.bb i i' _ _ h1 b1 (h2.trans e3)
  ·rw[a3,b4]at e3;have:=(h.mem.box i _ a1).1.lt;rcases hboxW b1 b2 with h1|⟨c,h1,h2⟩
   ·omega
   ·exact h.mem.bb i i' _ _ a1 h1 (e3.trans h2.symm)
  ·rw[a3,b3]at e3;exact h.mem.bb i i' _ _ a1 b1 e3
 ·obtain⟨e,W,n⟩:=q;rcases hboxI e1 with⟨q,c0,a1,a2,a3,a4⟩|⟨a1,a2,a3⟩<;>rcases hrowI e2 with⟨q',b1,b2,b3⟩|⟨b1,b2,b3⟩
  ·rw[a4];rw[b3]at e3;exact hm.br _ _ _ _ b cap (z7k a1) (z2d b1) e3
  ·rw[a4];rw[b3]at e3;obtain⟨c,e',hc⟩:=hrowlt b1 e3;have:=(gA hc).1;rcases hboxW a1 a2 with h1|⟨c,h1,h2⟩
   ·omega
   ·rw[←h2];exact h.mem.br i i' _ _ b cap h1 b1 e3
  ·rw[a3];rw[b3]at e3;have:=(h.mem.box i _ a1).1.lt;rcases hrowW b1 b2 e3 with h1|⟨q0,cap0,h1,h2⟩
   ·omega
   ·exact h.mem.br i i' _ _ b cap0 a1 h1 h2
  ·rw[a3];rw[b3]at e3;exact h.mem.br i i' _ _ b cap a1 b1 e3
 ·obtain⟨e,W,n⟩:=q;obtain⟨e',W',n'⟩:=q';rcases hrowI e1 with⟨q,a1,a2,a3⟩|⟨a1,a2,a3⟩<;>rcases hrowI e2 with⟨q',b1,b2,b3⟩|⟨b1,b2,b3⟩
  ·rw[a3]at e3;rw[b3]at e4;have:=hm.rr _ _ _ _ b cap cap' (z2d a1) (z2d b1) e3 e4;obtain rfl:q=q':=by omega
   rw[a2]at b2;exact Option.some.inj b2
  ·rw[a3]at e3;rw[b3]at e4;obtain⟨c,e',hc⟩:=hrowlt b1 e4;have:=(gA hc).1;rcases hrowW a1 a2 e3 with h1|⟨q0,cap0,h1,h2⟩
   ·omega
   ·exact h.mem.rr i i' _ _ b cap0 cap' h1 b1 h2 e4
  ·rw[a3]at e3;rw[b3]at e4;obtain⟨c,e',hc⟩:=hrowlt a1 e3;have:=(gA hc).1;rcases hrowW b1 b2 e4 with h1|⟨q0,cap0,h1,h2⟩
   ·omega
   ·exact h.mem.rr i i' _ _ b cap cap0 a1 h1 e3 h2
  ·rw[a3]at e3;rw[b3]at e4;exact h.mem.rr i i' _ _ b cap cap' a1 b1 e3 e4
 ·refine⟨hm.low.os.trans h.mem.low.os,hm.low.tape.trans h.mem.low.tape,hm.low.output.trans h.mem.low.output,Nat.le_trans hw0 hm.low.size,fun b hb hx=> ?_⟩;refine(hm.low.block b (Nat.lt_of_lt_of_le hb hw0) (fun d hd=> ?_)).trans (h.mem.low.block b hb hx);rcases hXlow hd with h1|⟨d',h1⟩
  ·omega
  ·exact hx d' h1
 ·obtain⟨h3,h4⟩:=h.mem.keep b o u h1 h2;exact hm.keep b o u h3 h4
 ·rcases hm.knew b o h1 with h2|h2|⟨d,h2⟩
  ·exact h.mem.knew b o h2
  ·exact .inr (.inl (Nat.le_trans hw0 h2))
  ·rcases hXlow h2 with h3|h3
   ·exact .inr (.inl h3)
   ·exact .inr (.inr h3)
 ·refine(hγbox (hoold ho) (fun e W n hlk=> ?_)).trans (h.mem.pas.γ d ho h0);obtain⟨q,m,a1,a2,a3,a4⟩:=hL hlk;have hmem:d∈I:=by
   apply Classical.byContradiction;intro hno;rw[hold d (hoold ho) hno]at a2;cases a2
  obtain⟨j,h1,h2,h3,h4⟩:=hposIn hmem;obtain rfl:j=q:=by rw[h3]at a2;have:=Option.some.inj a2;omega
  cases m with
  |box cs=>simp only[MO.ren]at a4;obtain⟨_,_,h6⟩:=gO a4;cases h6
  |row e1 W1 n1=>
   cases hx:os[j]with
   |box cs=>
    obtain⟨cs',hcs'⟩:=ok3 j cs (by rw[←hx];exact gE h4);rw[hcs']at a1;cases a1
   |row e0 W0 n0=>
    obtain⟨i',b1,b2,b3⟩:=hR j e0 W0 n0 (by rw[←hx];exact gE h4);rw[h1]at b1;cases b1;obtain⟨n2,c1,_⟩:=h.mem.pas.row d e0 W0 n0 ho b3;rw[h0]at c1;cases c1
 ·rcases hrowI hd with⟨q,a1,a2,a3⟩|⟨a1,a2,a3⟩
  ·have hb:=hback a2;have hmem:d∈I:=by
    apply Classical.byContradiction;intro hno;rw[hold d (hoold ho) hno]at hb;cases hb
   obtain⟨j,h1,h2,h3,h4⟩:=hposIn hmem;obtain rfl:j=q:=by rw[h3]at hb;have:=Option.some.inj hb;omega
   cases hx:os[j]with
   |box cs=>
    obtain⟨cs',hcs'⟩:=ok3 j cs (by rw[←hx];exact gE h4);rw[hcs']at a1;cases a1
   |row e0 W0 n0=>
    have hxo:os[j]?=some (.row e0 W0 n0):=by rw[←hx];exact gE h4
    obtain⟨i',b1,b2,b3⟩:=hR j e0 W0 n0 hxo;rw[h1]at b1;cases b1;obtain⟨n',c1,c2,c3⟩:=hl.row (1000+j) e0 W0 n0 (z2d hxo);rw[z2d a1]at c1;have c1':=Option.some.inj c1;simp only[Prod.mk.injEq]at c1';obtain⟨rfl,rfl,rfl⟩:=c1';obtain⟨n2,d1,d2,d3⟩:=h.mem.pas.row d e W n0 ho b3;refine⟨n2,d1,by omega,fun he=> ?_⟩;have e1:n2=n0:=by omega
    have e2:n0=n:=by omega
    rw[a3,c3 e2,hγin h1];exact d3 e1
  ·rw[a3];exact h.mem.pas.row d e W n ho a1
 ·obtain⟨h1,h2⟩:=h.itr d z p hd;refine⟨(hm.low.block _ (gA h1).1 (fun d' hx=> ?_)).trans h1,h2⟩;rcases hXbox hx with⟨i',c,b1,b2,b3⟩|⟨i',q,cap,b1,b2,_,b3⟩
  ·obtain⟨c',e',z',ho⟩:=(h.mem.box i' c b1).1.obj;rw[b3,h1]at ho;cases ho
  ·obtain⟨c',e',hc⟩:=hrowlt b1 b3;rw[h1]at hc;cases hc
end
end
section
section
variable{B:Base}{s:FS}{a:Act}{w w':World}{E E':Env}{r:Rows}{P:Program}{C:z0n}
variable{d:Nat}
theorem z00{x:Arg}{t:TV}(h:x.get s=some t)(hm:Ment d t):s.ment d:=by
 cases x with
 |tmp k=>exact .inl ⟨k,t,h,hm⟩
 |val v=>simp[Arg.get]at h;subst h;cases hm
theorem zbm{t c:TV}{cs:List TV}(h:t.cells=some cs)(hc:c∈cs)(hm:Ment d c):Ment d t:=by
 cases t with
 |agg cs'=>simp[TV.cells]at h;subst h;exact .agg hc hm
 |tuple ts=>simp[TV.cells]at h
 |pv p=>
  cases p with
  |v x=>
   simp only[TV.cells]at h
   grind
  |_=>grind [TV.cells]
 |unk=>simp[TV.cells]at h
 |_=>grind [TV.cells]
theorem z2o{t:TypeId}{i:TypeInfo}(h:P.info? t=some i)(w:World):(sizeOf t).run P w=.ok i.size w:=by simp[sizeOf,typeInfo,h]
theorem z9d{t:TypeId}{d:TypeDesc}(h:P.underlying t=some d)(w:World):(isAgg t).run P w=.ok d.isRow w:=by
 unfold isAgg;rw[Sem.run_bind,run_underlying h w];cases d<;>simp_all [TypeDesc.isRow]
theorem z4G(b o:Nat)(ty:TypeId)(d:TypeDesc)(i:TypeInfo)(vs:List Value)(hu:P.underlying ty=some d)(hi:P.info? ty=some i)(hc:w.rangeAt b o vs)(hl:if d.isRow then vs.length=i.size else vs.length=1):
  (loadVar ty ⟨b,o,none⟩).run P w=.ok (if d.isRow then .agg vs.toArray else vs.getD 0 undef) w:=by
 cases hd:d.isRow with
 |true=>
  simp only[hd,if_true]at hl ⊢;exact run_loadVar_mid w b o ty vs d hc hu hd (by rw[hi,hl];rfl)
 |false=>
  simp only[hd,Bool.false_eq_true,if_false]at hl ⊢;obtain⟨v,rfl⟩:∃v,vs=[v]:=by cases vs with|nil=>simp at hl|cons v r=>cases r with|nil=>exact⟨v,rfl⟩|cons=>simp at hl
  have h0:=hc 0 v rfl;simp only[Nat.add_zero]at h0;unfold loadVar;rw[Sem.run_bind,z9d hu,hd];simp_all
theorem z6m(b o:Nat)(ty:TypeId)(i:TypeInfo)(v:Value)(us:List Value)(hv:v.cells=us.toArray)(hi:P.info? ty=some i)(hl:us.length=i.size)(ht:w.there b o us.length)(h1:∀u∈us,one u):
  (storeVar ty ⟨b,o,none⟩ v).run P w=.ok () (w.setCells b o us):=by
 have:=run_storeCells_cells (P:=P) b o us 0 w (fun j hj=>by simpa using(ht j hj).1) (fun j hj=>by simpa using(ht j hj).2) h1;simp only[Nat.add_zero]at this;simp[storeVar,sizeOf,typeInfo,hi,hv,hl,this]
theorem zpD(h:Sim B s a w E){o:Oper}{t:TypeId}{x:Operand}(ho:o.op=.load t x){d:TypeDesc}{i:TypeInfo}(hu:P.underlying t=some d)(hi:P.info? t=some i)
  {y:TV} {u:Upd} (he:eff P C o.dst (if d.isRow then .ld true i.size (.of x)else .ld false 1 (.of x)) s=some (y,u)):u=.no∧z3c P B s y a w o:=by
 have key:∀(b off:Nat) (cs:List TV) (vs:List Value),a.eval x=.pointer (some ⟨b,off,none⟩)→RelL w E s.r cs vs→w.rangeAt b off vs→
   (if d.isRow then(cs.length=i.size∧y=.agg cs)else(cs.length=1∧cs[0]?=some y))→z3c P B s y a w o:=by
  intro b off cs vs hx hrel hr hy;have hrun:=z4G (P:=P) (w:=w) b off t d i vs hu hi hr (by
   cases hd:d.isRow<;>simp only[hd,if_true,if_false,Bool.false_eq_true]at hy ⊢
   ·rw[←hrel.len];exact hy.1
   ·rw[←hrel.len];exact hy.1)
  refine z5J h (v:=if d.isRow then .agg vs.toArray else vs.getD 0 undef) ?_ ?_
  ·simp[execOp,ho,hx,Instr.loadAt,Instr.sureAddr,hrun,Result.andThen]
  ·cases hd:d.isRow<;>simp only[hd,if_true,if_false,Bool.false_eq_true]at hy ⊢
   ·have hl:0<vs.length:=by rw[←hrel.len];omega
    refine hrel.at_ 0 y _ hy.2 ?_;rw[List.getD_eq_getElem?_getD,gE hl];rfl
   ·rw[hy.2];exact hrel.agg
 have hget:∀z,(Arg.of x).get s=some z→RelT w E s.r z (a.eval x):=fun z hz=>zj h hz;generalize hR:d.isRow=R at he key;cases R with
 |true=>
  simp only[eff,if_true]at he;split at he
  ·rename_i dd off hg;obtain⟨cs,hb,he⟩:=gB he;split at he
   ·rename_i hle;cases he;refine⟨rfl,?_⟩;have hx:=hget _ hg;generalize hv:a.eval x=v at hx;cases hx;obtain⟨hbox,_⟩:=h.mem.box dd cs hb;obtain⟨vs,hrel,hcell⟩:=zhh hbox;refine key (E.β dd) off ((cs.drop off).take i.size) ((vs.drop off).take i.size) hv ((hrel.drop off).take _) (fun j v hv'=> ?_) ?_
    ·have hj:j<i.size:=by have:=(gJ hv').1;simp at this;omega
     simp[hj]at hv';exact hcell _ _ hv'
    ·simp;omega
   ·cases he
  ·rename_i cs hg;split at he
   ·rename_i hle;cases he;refine⟨rfl,?_⟩;have hx:=hget _ hg;generalize hv:a.eval x=v at hx;cases hx with
    |pv hx=>
    cases hx with
    |el _ b off f hc hs=>
    refine key b off ((cs.take i.size).map .pv) ((List.range i.size).map f) hv ⟨by simp;omega,fun j c v hc' hv'=> ?_,fun v hv'=> ?_⟩ (fun j v hv'=> ?_) ?_
    ·have hj:j<i.size:=by have:=(gJ hv').1;simpa using this
     simp[hj]at hc' hv';obtain⟨p,hp,rfl⟩:=hc';subst hv';exact .pv (hs j p hp)
    ·obtain⟨j,hj,rfl⟩:=List.mem_map.1 hv';have hj':j<i.size:=by simpa using hj
     exact(hc j cs[j] (gE (by omega))).2.2
    ·have hj:j<i.size:=by have:=(gJ hv').1;simpa using this
     simp[hj]at hv';subst hv';exact(hc j (cs[j]'(by omega)) (gE (by omega))).2.1
    ·simp;omega
   ·cases he
  ·cases he
 |false=>
  simp only[eff,Bool.false_eq_true,if_false]at he;split at he
  ·rename_i dd off hg;obtain⟨cs,hb,he⟩:=gB he;obtain⟨c,hc,he⟩:=gO he;cases he;refine⟨rfl,?_⟩;have hx:=hget _ hg;generalize hv:a.eval x=v at hx;cases hx;obtain⟨hbox,_⟩:=h.mem.box dd cs hb;obtain⟨v,h1,h2,h3⟩:=hbox.cell off y hc;refine key (E.β dd) off [y] [v] hv ⟨rfl,fun j c' v' hc' hv'=> ?_,fun u hu=>by simp at hu;subst hu;exact h2⟩ (fun j u hu=> ?_) ?_
   ·cases j with
    |zero=>simp at hc' hv';subst hc';subst hv';exact h3
    |succ j=>simp at hc'
   ·cases j with
    |zero=>simp at hu;subst hu;exact h1
    |succ j=>simp at hu
   ·simp
  ·rename_i cs hg;obtain⟨c,hc,he⟩:=gO he;cases he;refine⟨rfl,?_⟩;have hx:=hget _ hg;generalize hv:a.eval x=v at hx;cases hx with
   |pv hx=>
   cases hx with
   |el _ b off f hc1 hs1=>
   obtain⟨_,h1,h2⟩:=hc1 0 c hc;refine key b off [.pv c] [f 0] hv ⟨rfl,fun j c' v' hc' hv'=> ?_,fun u hu=>by simp at hu;subst hu;exact h2⟩ (fun j u hu=> ?_) ?_
   ·cases j with
    |zero=>simp at hc' hv';subst hc';subst hv';exact .pv (hs1 0 c hc)
    |succ j=>simp at hc'
   ·cases j with
    |zero=>simp at hu;subst hu;exact h1
    |succ j=>simp at hu
   ·simp
  ·cases he
theorem zpE(h:Sim B s a w E){o:Oper}{t:TypeId}{x y:Operand}(ho:o.op=.store t x y){i:TypeInfo}(hi:P.info? t=some i)
  {z:TV} {u:Upd} (he:eff P C o.dst (.st i.size (.of x) (.of y)) s=some (z,u)):z3c P B (s.upd o.dst u) z a w o:=by
 simp only[eff]at he;split at he
 ·rename_i dd off hg;obtain⟨cs,hb,he⟩:=gB he;obtain⟨xs,hxs,he⟩:=gB he;obtain⟨ty,hy1,hy2⟩:=gB hxs;split at he
  ·rename_i hle;cases he;have hx:=zj h hg;generalize hv:a.eval x=v at hx;cases hx;obtain⟨us,hu1,hu2⟩:=z5l (zj h hy1) hy2;obtain⟨hbox,_⟩:=h.mem.box dd cs hb;have hlen:=hu2.len;have hrun:=z6m (P:=P) (w:=w) (E.β dd) off t i (a.eval y) us hu1 hi (by omega) (fun j hj=>⟨by
    obtain⟨c,hc⟩:∃c,cs[off+j]?=some c:=⟨_,gE (by omega)⟩
    obtain⟨v,h1,_⟩:=hbox.cell _ c hc;rw[h1];rfl,hbox.fz _⟩) hu2.ones
   refine⟨.skip,undef,w.setCells (E.β dd) off us,E,?_,.inr ⟨rfl,rfl⟩,h.wr hb xs us hlen (by omega) hu2.at_ hu2.ones,.pv (.v _)⟩;simp[execOp,ho,hv,Instr.storeAt,Instr.sureAddr,hrun,Result.andThen]
  ·cases he
 ·cases he
theorem zmP(h:Sim B s a w E){o:Oper}{t:TypeId}{x:Operand}(ho:o.op=.box t x)(hno:∀d,o.dst=some d→¬B.old d)(hf:∀d,o.dst=some d→z0I s d){z:TV}{u:Upd}(he:eff P C o.dst (.box (.of x)) s=some (z,u)):z3c P B (s.upd o.dst u) z a w o:=by
 simp only[eff]at he;cases hd:o.dst with
 |none=>grind
 |some d=>
  rw[hd]at he;obtain⟨cs,h1,he⟩:=gO he;obtain⟨ty,h2,h3⟩:=gB h1;cases he;obtain⟨us,hu1,hu2⟩:=z5l (zj h h2) h3;have hm:∀c∈cs,¬Ment d c:=by
   intro c hc hmc;exact(hf d hd).1 (z00 h2 (zbm h3 hc hmc))
  obtain⟨E',hE,hS⟩:=h.newB (hno d hd) (hf d hd) t cs us hu2.len hu2.at_ hu2.ones hm;refine⟨.value (.pointer (some ⟨w.heap.size,0,none⟩)),_,w.alloc (.cells us.toArray t),E',?_,.inl rfl,hS,?_⟩
  ·simp[execOp,ho,Instr.box,newVar,newRow,hu1,Result.andThen]
  ·rw[←hE];exact .ptr d 0
theorem zmS(h:Sim B s a w E){o:Oper}{t:TypeId}(ho:o.op=.alloc t)(hno:∀d,o.dst=some d→¬B.old d)(hf:∀d,o.dst=some d→z0I s d){i:TypeInfo}{zv:Value}(hi:P.info? t=some i)(hz:i.zero=some zv)(h1:zv.cells.toList.all (·.oneCell')=true)
  {z:TV} {u:Upd} (he:eff P C o.dst (.new zv.cells.toList) s=some (z,u)):z3c P B (s.upd o.dst u) z a w o:=by
 simp only[eff]at he;cases hd:o.dst with
 |none=>grind
 |some d=>
  rw[hd]at he;cases he;have hones:∀v∈zv.cells.toList,one v:=fun v hv=>List.all_eq_true.1 h1 v hv;have hrel:=RelL.ofVals (w:=w) (E:=E) (r:=s.r) hones;obtain⟨E',hE,hS⟩:=h.newB (hno d hd) (hf d hd) t _ zv.cells.toList hrel.len hrel.at_ hones (by
   intro c hc hmc;obtain⟨v,_,rfl⟩:=List.mem_map.1 hc;cases hmc)
  refine⟨.value (.pointer (some ⟨w.heap.size,0,none⟩)),_,w.alloc (.cells zv.cells t),E',?_,.inl rfl,(by simp only[Array.toArray_toList]at hS;exact hS),?_⟩
  ·simp[execOp,ho,Instr.alloc,zeroValue,typeInfo,hi,hz,newVar,newRow,Result.andThen]
  ·rw[←hE];exact .ptr d 0
theorem ziE(h:Sim B s a w E){o:Oper}{t:TypeId}{parts:Array (Nat×Operand)}(ho:o.op=.build t parts){i:TypeInfo}{fs:Array Field}{zv:Value}(hi:P.info? t=some i)(hu:P.underlying t=some (.struct fs))(hz:i.zero=some zv)
    (h1 : zv.cells.toList.all (·.oneCell') = true) {ps : List (Nat × Nat × Arg)} (hps : seqO (fun p : Nat × Operand => match fs[p.1]? with
          |some f=>(P.info? f.type).map fun j=>(f.offset,j.size,Arg.of p.2)
          |none=>none) parts.toList=some ps)
    (hfs:∀(k:Nat) f,fs[k]?=some f→∃j,P.info? f.type=some j)
    {z:TV} {u:Upd} (he:eff P C o.dst (.build zv.cells.toList ps) s=some (z,u)):u=.no∧z3c P B s z a w o:=by
  simp only[eff]at he
  obtain⟨qs,hq,he⟩:=gB he
  obtain⟨cs',hf,he⟩:=gO he
  cases he
  refine⟨rfl,?_⟩
  have hones:∀v∈zv.cells.toList,one v:=fun v hv=>List.all_eq_true.1 h1 v hv
  have hrel:=RelL.ofVals (w:=w) (E:=E) (r:=s.r) hones
  obtain⟨l1,hs1⟩:=z06 hps
  obtain⟨l2,hs2⟩:=z06 hq
  have hsz:∃places:Array (Nat×Nat),(fs.mapM (m:=Sem) fun f=>Prod.mk f.offset<$>sizeOf f.type).run P w=.ok places w∧∀(k:Nat) f j,fs[k]?=some f→P.info? f.type=some j→places[k]?=some (f.offset,j.size):=by
    have:∀(l:List Field),(∀f∈l,∃j,P.info? f.type=some j)→∃pl:List (Nat×Nat),(l.mapM (m:=Sem) fun f=>Prod.mk f.offset<$>sizeOf f.type).run P w=.ok pl w∧∀(k:Nat) f j,l[k]?=some f→P.info? f.type=some j→pl[k]?=some (f.offset,j.size):=by
      intro l
      induction l with
      |nil=>exact fun _=>⟨[],rfl,by simp⟩
      |cons f l ih=>
        intro hl
        obtain⟨pl,hp1,hp2⟩:=ih fun g hg=>hl g (List.mem_cons_of_mem _ hg)
        obtain⟨j,hj⟩:=hl f (List.mem_cons_self ..)
        refine⟨(f.offset,j.size)::pl,?_,fun k g q hk hq'=> ?_⟩
        · simp[List.mapM_cons,z2o hj,Result.andThen,hp1]
        · cases k with
          |zero=>simp at hk;subst hk;rw[hj]at hq';cases hq';rfl
          |succ k=>simpa using hp2 k g q (by simpa using hk) hq'
    obtain⟨pl,hp1,hp2⟩:=this fs.toList (fun f hf=>by
      obtain⟨k,hk⟩:=List.getElem?_of_mem hf
      exact hfs k f (by simpa using hk))
    refine⟨pl.toArray,?_,fun k f j hk hj=>by simpa using hp2 k f j (by simpa using hk) hj⟩
    rw[←Array.toArray_toList (xs:=fs),List.mapM_toArray]
    simp[hp1,Result.andThen]
  obtain⟨places,hpl,hplaces⟩:=hsz
  obtain⟨vs',hfill,hrel'⟩:=zaG (place:=fun k=>places[k]?) (parts:=(parts.map fun p=>(p.1,a.eval p.2)).toList) (ps:=qs) (vs:=zv.cells.toList) hrel (by simp;rw[←Array.length_toList,l1,l2]) (fun j p q hp hq'=>by
    simp only[Array.toList_map,List.getElem?_map]at hp
    obtain⟨⟨k,x⟩,hx,rfl⟩:=gO hp
    obtain⟨y,hy1,hy2⟩:=hs1 j (k,x) hx
    obtain⟨y',hy1',hy2'⟩:=hs2 j y hy1
    rw[hq']at hy1';cases hy1'
    dsimp only at hy2
    split at hy2
    · rename_i f hf1
      obtain⟨jj,hj1,hj2⟩:=gO hy2
      subst hj2
      dsimp only at hy2'
      obtain⟨xs,hxs,he2⟩:=gO hy2'
      subst he2
      obtain⟨ty,ht1,ht2⟩:=gB hxs
      obtain⟨us,hu1,hu2⟩:=z5l (zj h ht1) ht2
      exact⟨hplaces k f jj hf1 hj1,us,hu1,hu2⟩
    · cases hy2) hf
  refine z5J h (v:=.agg vs'.toArray) ?_ hrel'.agg
  have hzv:zv.cells.toList.toArray=zv.cells:=by simp
  rw[hzv]at hfill
  simp only[Array.toList_map]at hfill
  simp[execOp,ho,Instr.build,zeroValue,typeInfo,hi,hz,run_underlying hu,Result.andThen,hpl,hfill]
theorem zgE(h:Sim B s a w E){o:Oper}{t e:TypeId}{n:Nat}{parts:Array (Nat×Operand)}(ho:o.op=.build t parts){i j:TypeInfo}{zv:Value}(hi:P.info? t=some i)(hu:P.underlying t=some (.array n e))(hz:i.zero=some zv)(hj:P.info? e=some j)
  (h1:zv.cells.toList.all (·.oneCell')=true) {z:TV} {u:Upd} (he:eff P C o.dst (.build zv.cells.toList (parts.toList.map fun p=>(p.1*j.size,j.size,Arg.of p.2))) s=some (z,u)):u=.no∧z3c P B s z a w o:=by
 simp only[eff]at he;obtain⟨qs,hq,he⟩:=gB he;obtain⟨cs',hf,he⟩:=gO he;cases he;refine⟨rfl,?_⟩;have hones:∀v∈zv.cells.toList,one v:=fun v hv=>List.all_eq_true.1 h1 v hv;have hrel:=RelL.ofVals (w:=w) (E:=E) (r:=s.r) hones;obtain⟨l2,hs2⟩:=z06 hq;obtain⟨vs',hfill,hrel'⟩:=zaG (place:=fun k=>some (k*j.size,j.size)) (parts:=(parts.map fun p=>(p.1,a.eval p.2)).toList) (ps:=qs) (vs:=zv.cells.toList) hrel (by simp at l2 ⊢;omega) (fun q p y hp hq'=>by
  simp only[Array.toList_map,List.getElem?_map]at hp;obtain⟨⟨k,x⟩,hx,rfl⟩:=gO hp;obtain⟨y',hy1',hy2'⟩:=hs2 q (k*j.size,j.size,Arg.of x) (by rw[List.getElem?_map,hx];rfl);rw[hq']at hy1';cases hy1'
  dsimp only at hy2'
  obtain⟨xs,hxs,he2⟩:=gO hy2';subst he2;obtain⟨ty,ht1,ht2⟩:=gB hxs;obtain⟨us,hu1,hu2⟩:=z5l (zj h ht1) ht2;exact⟨rfl,us,hu1,hu2⟩) hf
 refine z5J h (v:=.agg vs'.toArray) ?_ hrel'.agg;have hzv:zv.cells.toList.toArray=zv.cells:=by simp
 rw[hzv]at hfill;simp only[Array.toList_map]at hfill;simp[execOp,ho,Instr.build,zeroValue,typeInfo,hi,hz,run_underlying hu,z2o hj,Result.andThen,hfill]
end
end
end Go.Sh
end
