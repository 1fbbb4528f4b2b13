/- Merged texts: S8 S9 S10 S10m S11. No statement of the program is proved here. -/
import Derived.Test.YtcpaleaajdilgaaGreatDoorM1
import Derived.WideLaws
import Derived.BigCall
import Derived.Laws.BytesString
import Derived.Laws.MakeOwn
set_option linter.unusedSimpArgs false
set_option linter.unusedVariables false
set_option maxRecDepth 100000
set_option maxHeartbeats 8000000
section
namespace Go.Sh
open Go Go.RowKit
section
section
variable{B:Base}{s:FS}{a:Act}{w w':World}{E E':Env}{P:Program}{I:List Nat}
def BoxWas(s:FS)(w:World)(E:Env)(i b:Nat):Prop:=w.heap.size≤b∨∃cs,s.b i=some cs∧E.β i=b
def RowWas(s:FS)(w:World)(E:Env)(i b:Nat):Prop:=w.heap.size≤b∨∃q cap,s.r i=some q∧E.γ i=some (b,cap)
theorem z174(h:Sim B s a w E)(hI:I.Nodup)(hIm:∀i∈I,s.ment i){k:Nat}(hm0:B.m≤1000)(hfr:∀q<4,Fresh s (newId k q)){os os':List MO}(hos:seqO (fun d=>(s.mo d).bind (MO.ren (rhoIn I))) I=some os)
  (hok:moOk os os'=true) {us:List (Nat×MO)} (hus:outs (rhoOut I k) 0 os'=some us) (hm:MSim (start w (envIn E I) os 0) (objB os') (objR os') w' E') (hl:Left (envIn E I) os E' os') (dst:Option Nat):
  Sim B (s.upd dst (.mem us)) a w' (envOut E E' I k)∧RenOk E' (objR os') (rhoOut I k) (envOut E E' I k) (s.upd dst (.mem us)).r:=by
 obtain⟨hlen,hB,hR⟩:=handed hos;obtain⟨ok1,ok2,ok3,ok4⟩:=z113 hok;have hn:∀q<4,newId k q∉I:=fun q hq hmem=>(hfr q hq).1 (hIm _ hmem);obtain⟨o1,o2⟩:=outs_spec hus;simp only[Nat.zero_add]at o1 o2;have hback:∀{d i},rhoOut I k d=some i→backAt I k i=some d:=fun hd=>back_out hI hn hd;have hL:∀{i m'},us.lookup i=some m'→∃(q:Nat) (m:MO),os'[q]?=some m∧backAt I k i=some (1000+q)∧rhoOut I k (1000+q)=some i∧m.ren (rhoOut I k)=some m':=fun hi=>by
  obtain⟨q,m,a1,a2,a3⟩:=o1 _ _ hi;exact⟨q,m,a1,hback a2,a2,a3⟩
 have hposIn:∀{i},i∈I→∃j,I[j]?=some i∧pos I i=some j∧backAt I k i=some (1000+j)∧j<os.length:=fun {i} hi=>by
  obtain⟨j,hj⟩:=List.getElem?_of_mem hi;have hp:=z78 hI hj;exact⟨j,hj,hp,by simp[backAt,hp],by rw[←hlen];exact(gJ hj).1⟩
 have hLin:∀{i},i∈I→∃m',us.lookup i=some m':=fun {i} hi=>by
  obtain⟨j,h1,h2,h3,h4⟩:=hposIn hi;obtain⟨i',m',b1,b2,b3⟩:=o2 j _ (gE (show j<os'.length by omega));have:rhoOut I k (1000+j)=some i:=(out_back h3).1;rw[this]at b1;cases b1;exact lookup_of_mem b3
 have hold:∀i,(∀q<4,i≠newId k q)→i∉I→backAt I k i=none:=fun i h1 h2=>by
  unfold backAt;cases hp:pos I i with
  |some j=>exact absurd (gM (z151 hp)) h2
  |none=>
   cases hq:newAt k i with
   |none=>rfl
   |some q=>obtain⟨e,hq⟩:=newAt_some hq;exact absurd e (h1 q hq)
 have hmold:∀{i},s.ment i→∀q<4,i≠newId k q:=fun hi q hq e=>(hfr q hq).1 (e▸hi);have hbold:∀{i cs},s.b i=some cs→∀q<4,i≠newId k q:=fun hi q hq e=>by have:=(hfr q hq).2.1;rw[←e,hi]at this;cases this
 have hrold:∀{i x},s.r i=some x→∀q<4,i≠newId k q:=fun hi q hq e=>by have:=(hfr q hq).2.2.1;rw[←e,hi]at this;cases this
 have hβ:∀{i},(∀q<4,i≠newId k q)→(envOut E E' I k).β i=E.β i:=fun {i} hi=>by
  by_cases hmem:i∈I
  ·obtain⟨j,h1,h2,h3,h4⟩:=hposIn hmem;simp only[envOut,h3];rw[hl.beta (1000+j) (by omega) (by omega)];simp only[envIn];rw[getD_of h1]
  ·simp only[envOut,hold i hi hmem]
 have hγout:∀{i},(∀q<4,i≠newId k q)→i∉I→(envOut E E' I k).γ i=E.γ i:=fun {i} hi hmem=>by simp only[envOut,hold i hi hmem]
 have hγin:∀{i j},I[j]?=some i→(envIn E I).γ (1000+j)=E.γ i:=fun hj=>by simp only[envIn];rw[getD_of hj]
 have hβin:∀{i j},I[j]?=some i→(envIn E I).β (1000+j)=E.β i:=fun hj=>by simp only[envIn];rw[getD_of hj]
 have hγbox:∀{i},(∀q<4,i≠newId k q)→(∀e W n,us.lookup i≠some (.row e W n))→(envOut E E' I k).γ i=E.γ i:=fun {i} hi hnr=>by
  by_cases hmem:i∈I
  ·obtain⟨j,h1,h2,h3,h4⟩:=hposIn hmem;obtain⟨m',hm'⟩:=hLin hmem;obtain⟨q,m,a1,a2,a3,a4⟩:=hL hm';have hq:q=j:=by rw[h3]at a2;have:=Option.some.inj a2;omega
   subst hq;have hrn:objR os (1000+q)=none:=by
    cases hx:objR os (1000+q)with
    |none=>rfl
    |some x=>
     obtain⟨e,W,n⟩:=x;obtain⟨j',hj',hj2⟩:=z30 hx;obtain rfl:q=j':=by omega
     obtain⟨n',hn',_⟩:=ok4 q e W n hj2;rw[hn']at a1;cases a1;simp only[MO.ren]at a4;cases a4;exact absurd hm' (hnr _ _ _)
   simp only[envOut,h3];rw[hl.gamma (1000+q) (by omega) (by omega) hrn];exact hγin h1
  ·exact hγout hi hmem
 have hren:RenOk E' (objR os') (rhoOut I k) (envOut E E' I k) (s.upd dst (.mem us)).r:=by
  refine⟨fun d i hd=> ?_⟩;have hb:=hback hd;refine⟨by simp only[envOut,hb],by simp only[envOut,hb],fun q hq=> ?_⟩;obtain⟨e,W,n⟩:=q;obtain⟨j,rfl⟩:∃j,d=1000+j:=⟨d-1000,by have:=(out_back hb).2;omega⟩
  simp only[FS.upd,memR]at hq;split at hq
  ·rename_i e' W' n' hlk;cases hq;obtain⟨q,m,a1,a2,a3,a4⟩:=hL hlk;rw[hb]at a2;obtain rfl:j=q:=by have:=Option.some.inj a2;omega
   cases m with
   |box cs=>simp only[MO.ren]at a4;obtain⟨_,_,h6⟩:=gO a4;cases h6
   |row e W n=>simp only[MO.ren]at a4;cases a4;exact z58 a1
  ·rename_i hnr;exfalso;by_cases hmem:i∈I
   ·obtain⟨j',h1,h2,h3,h4⟩:=hposIn hmem;obtain⟨m',hm'⟩:=hLin hmem;obtain⟨q,m,a1,a2,a3,a4⟩:=hL hm';obtain rfl:j'=q:=by rw[h3]at a2;have:=Option.some.inj a2;omega
    cases hx:os[j']with
    |box cs=>
     obtain⟨i',c,b1,b2,b3,b4⟩:=hB j' cs (by rw[←hx];exact gE h4);rw[h1]at b1;cases b1;rw[b4]at hq;cases hq
    |row e0 W0 n0=>
     obtain⟨n',hn',_⟩:=ok4 j' e0 W0 n0 (by rw[←hx];exact gE h4);rw[hn']at a1;cases a1;simp only[MO.ren]at a4;cases a4;exact hnr _ _ _ hm'
   ·have hnew:∃q,q<4∧i=newId k q:=by
     unfold backAt at hb;cases hp:pos I i with
     |some j=>exact absurd (gM (z151 hp)) hmem
     |none=>
      rw[hp]at hb;obtain⟨q,h1,_⟩:=gO hb;obtain⟨e,hq'⟩:=newAt_some h1;exact⟨q,hq',e⟩
    obtain⟨q,hq1,rfl⟩:=hnew;rw[(hfr q hq1).2.2.1]at hq;cases hq
 refine⟨?_,hren⟩;have hk:∀b o u,E.K b o→w.cell? ⟨b,o,none⟩=some u→(envOut E E' I k).K b o∧w'.cell? ⟨b,o,none⟩=some u:=hm.keep;have hrr:∀d e W n,s.ment d→(s.upd dst (.mem us)).r d=some (e,W,n)→(s.r d=some (e,W,n)∧(envOut E E' I k).γ d=E.γ d)∨(∃m,s.r d=some (e,W,m)∧m<n):=by
  intro d e W n hd hr;simp only[FS.upd,memR]at hr;split at hr
  ·rename_i e' W' n' hlk;cases hr;obtain⟨q,m,a1,a2,a3,a4⟩:=hL hlk;have hmem:d∈I:=by
    apply Classical.byContradiction;intro hno;rw[hold d (hmold hd) hno]at a2;cases a2
   obtain⟨j,h1,h2,h3,h4⟩:=hposIn hmem;obtain rfl:j=q:=by rw[h3]at a2;have:=Option.some.inj a2;omega
   cases m with
   |box cs=>simp only[MO.ren]at a4;obtain⟨_,_,h6⟩:=gO a4;cases h6
   |row e1 W1 n1=>
    simp only[MO.ren]at a4;cases a4;cases hx:os[j]with
    |box cs=>
     obtain⟨cs',hcs'⟩:=ok3 j cs (by rw[←hx];exact gE h4);rw[hcs']at a1;cases a1
    |row e0 W0 n0=>
     have hxo:os[j]?=some (.row e0 W0 n0):=by rw[←hx];exact gE h4
     obtain⟨i',b1,b2,b3⟩:=hR j e0 W0 n0 hxo;rw[h1]at b1;cases b1;obtain⟨n',c1,c2,c3⟩:=hl.row (1000+j) e0 W0 n0 (z58 hxo);rw[z58 a1]at c1;have c1':=Option.some.inj c1;simp only[Prod.mk.injEq]at c1';obtain⟨rfl,rfl,rfl⟩:=c1';rcases Nat.lt_or_ge n0 n with hlt|hge
     ·exact .inr ⟨n0,b3,hlt⟩
     ·obtain rfl:n0=n:=by omega
      refine .inl ⟨b3,?_⟩;simp only[envOut,h3];rw[c3 rfl];exact hγin h1
  ·rename_i hnr;exact .inl ⟨hr,hγbox (hmold hd) (fun e W n=>hnr e W n)⟩
 have hXbox:∀{d b},objX (envIn E I) os d b→(∃i cs,s.b i=some cs∧i∈I∧E.β i=b)∨(∃i q cap,s.r i=some q∧i∈I∧s.b i=none∧E.γ i=some (b,cap)):=by
  intro d b hx;rcases hx with⟨cs,h1,h2⟩|⟨⟨e,W,n⟩,cap,h1,h2⟩
  ·obtain⟨j,rfl,hj⟩:=z49 h1;obtain⟨i,c,b1,b2,_⟩:=hB j cs hj;exact .inl ⟨i,c,b2,gM b1,by rw[←hβin b1];exact h2⟩
  ·obtain⟨j,rfl,hj⟩:=z30 h1;obtain⟨i,b1,b2,b3⟩:=hR j e W n hj;exact .inr ⟨i,_,cap,b3,gM b1,b2,by rw[←hγin b1];exact h2⟩
 have hrowlt:∀{i q b cap},s.r i=some q→E.γ i=some (b,cap)→∃c e,w.heap[b]?=some (.cells c e (0,0)):=by
  intro i q b cap h1 h2;rcases h.mem.row i q.1 q.2.1 q.2.2 h1 with⟨h3,_⟩|⟨b',c',h3,_,h5⟩
  ·rw[h3]at h2;cases h2
  ·rw[h3]at h2;cases h2;obtain⟨cur,hc,_⟩:=h5.cells;exact⟨cur,_,hc⟩
 have hmaps:Maps w w':=by
  intro b es c hb;have hlt:=(gA hb).1;refine(hm.low.block b hlt (fun d hx=> ?_)).trans hb;rcases hXbox hx with⟨i,cs,b1,_,b3⟩|⟨i,q,cap,b1,_,_,b3⟩
  ·obtain⟨c',e',z',ho⟩:=(h.mem.box i cs b1).1.obj;rw[b3,hb]at ho;cases ho
  ·obtain⟨c',e',ho⟩:=hrowlt b1 b3;rw[hb]at ho;cases ho
 have hmono:∀{x:TV} {v:Value},(∀d,Ment d x→s.ment d)→RelT w E s.r x v→RelT w' (envOut E E' I k) (s.upd dst (.mem us)).r x v:=fun hx hv=>
  hv.mono hk (fun d hd=>⟨hβ (hmold (hx d hd)),rfl⟩) (fun d e W n hd=>hrr d e W n (hx d hd)) hmaps
 have hboxsame:∀{i cs},s.b i=some cs→i∉I→∀d,¬objX (envIn E I) os d (E.β i):=by
  intro i cs h1 h2 d hx;rcases hXbox hx with⟨i',c,b1,b2,b3⟩|⟨i',q,cap,b1,b2,_,b3⟩
  ·have:=h.mem.bb i' i _ _ b1 h1 b3;subst this;exact h2 b2
  ·exact h.mem.br i i' _ _ _ cap h1 b1 b3 rfl
 have hrowsame:∀{i q b cap},s.r i=some q→(i∉I∨∃cs,s.b i=some cs)→E.γ i=some (b,cap)→∀d,¬objX (envIn E I) os d b:=by
  intro i q b cap h1 h2 h3 d hx;rcases hXbox hx with⟨i',c,b1,b2,b3⟩|⟨i',q',cap',b1,b2,b4,b3⟩
  ·exact h.mem.br i' i _ _ _ cap b1 h1 h3 b3
  ·have:=h.mem.rr i i' _ _ _ _ _ h1 b1 h3 b3;subst this;rcases h2 with h2|⟨cs,h2⟩
   ·exact h2 b2
   ·rw[h2]at b4;cases b4
 have hboxI:∀{i cs'},(s.upd dst (.mem us)).b i=some cs'→(∃(q:Nat) (c0:List TV),os'[q]?=some (.box c0)∧rhoOut I k (1000+q)=some i∧seqO (TV.ren1 (rhoOut I k)) c0=some cs'∧(envOut E E' I k).β i=E'.β (1000+q))∨(s.b i=some cs'∧i∉I∧(envOut E E' I k).β i=E.β i):=by
  intro i cs' hi;simp only[FS.upd,memB]at hi;split at hi
  ·rename_i c hlk;cases hi;obtain⟨q,m,a1,a2,a3,a4⟩:=hL hlk;cases m with
   |row e W n=>simp[MO.ren]at a4
   |box c0=>
    simp only[MO.ren]at a4;obtain⟨l,h6,h7⟩:=gO a4;cases h7;exact .inl ⟨q,c0,a1,a3,h6,by simp only[envOut,a2]⟩
  ·rename_i hnb;refine .inr ⟨hi,fun hmem=> ?_,hβ (hbold hi)⟩;obtain⟨m',hm'⟩:=hLin hmem;obtain⟨j,h1,h2,h3,h4⟩:=hposIn hmem;obtain⟨q,m,a1,a2,a3,a4⟩:=hL hm';obtain rfl:j=q:=by rw[h3]at a2;have:=Option.some.inj a2;omega
   cases hx:os[j]with
   |row e0 W0 n0=>
    obtain⟨i',b1,b2,b3⟩:=hR j e0 W0 n0 (by rw[←hx];exact gE h4);rw[h1]at b1;cases b1;rw[hi]at b2;cases b2
   |box cs=>
    obtain⟨cs2,hcs2⟩:=ok3 j cs (by rw[←hx];exact gE h4);rw[hcs2]at a1;cases a1;simp only[MO.ren]at a4;obtain⟨l,h6,h7⟩:=gO a4;subst h7;exact hnb _ hm'
 have hrowI:∀{i e W n},(s.upd dst (.mem us)).r i=some (e,W,n)→(∃q:Nat,os'[q]?=some (.row e W n)∧rhoOut I k (1000+q)=some i∧(envOut E E' I k).γ i=E'.γ (1000+q))∨(s.r i=some (e,W,n)∧(i∉I∨∃cs,s.b i=some cs)∧(envOut E E' I k).γ i=E.γ i):=by
  intro i e W n hi;simp only[FS.upd,memR]at hi;split at hi
  ·rename_i e' W' n' hlk;cases hi;obtain⟨q,m,a1,a2,a3,a4⟩:=hL hlk;cases m with
   |box c0=>simp only[MO.ren]at a4;obtain⟨_,_,h6⟩:=gO a4;cases h6
   |row e1 W1 n1=>
    simp only[MO.ren]at a4;cases a4;exact .inl ⟨q,a1,a3,by simp only[envOut,a2]⟩
  ·rename_i hnr;refine .inr ⟨hi,?_,hγbox (hrold hi) (fun e W n=>hnr e W n)⟩;by_cases hmem:i∈I
   ·right;obtain⟨m',hm'⟩:=hLin hmem;obtain⟨j,h1,h2,h3,h4⟩:=hposIn hmem;obtain⟨q,m,a1,a2,a3,a4⟩:=hL hm';obtain rfl:j=q:=by rw[h3]at a2;have:=Option.some.inj a2;omega
    cases hx:os[j]with
    |box cs=>
     obtain⟨i',c,b1,b2,_⟩:=hB j cs (by rw[←hx];exact gE h4);rw[h1]at b1;cases b1;exact⟨c,b2⟩
    |row e0 W0 n0=>
     obtain⟨n',hn',_⟩:=ok4 j e0 W0 n0 (by rw[←hx];exact gE h4);rw[hn']at a1;cases a1;simp only[MO.ren]at a4;cases a4;exact absurd hm' (hnr _ _ _)
   ·exact .inl hmem
 have hboxW:∀{q:Nat} {c0 i},os'[q]?=some (.box c0)→rhoOut I k (1000+q)=some i→BoxWas s w E i (E'.β (1000+q)):=by
  intro q c0 i h1 h2;rcases(hm.box (1000+q) c0 (objB_eq h1)).2 with h3|h3
  ·exact .inl h3
  ·right;rcases h3 with⟨cs,h4,h5⟩|⟨⟨e,W,n⟩,cap,h4,h5⟩
   ·obtain⟨j,hj,hj2⟩:=z49 h4;obtain rfl:q=j:=by omega
    obtain⟨i',c,b1,b2,_⟩:=hB q cs hj2;have:backAt I k i'=some (1000+q):=by simp[backAt,z78 hI b1]
    have:=(out_back this).1;rw[h2]at this;cases this;exact⟨c,b2,by rw[←h5];exact(hβin b1).symm⟩
   ·obtain⟨j,hj,hj2⟩:=z30 h4;obtain rfl:q=j:=by omega
    obtain⟨n',hn',_⟩:=ok4 q e W n hj2;rw[h1]at hn';cases hn'
 have hrowW:∀{q e W n i b cap:Nat},os'[q]?=some (.row e W n)→rhoOut I k (1000+q)=some i→E'.γ (1000+q)=some (b,cap)→RowWas s w E i b:=by
  intro q e W n i b cap h1 h2 h0;rcases hm.row (1000+q) e W n (z58 h1)with⟨h3,_⟩|⟨b',c',h3,h4,_⟩
  ·rw[h3]at h0;cases h0
  ·rw[h3]at h0;cases h0;rcases h4 with h4|h4
   ·exact .inl h4
   ·right;rcases h4 with⟨cs,h5,h6⟩|⟨⟨e1,W1,n1⟩,cap',h5,h6⟩
    ·obtain⟨j,hj,hj2⟩:=z49 h5;obtain rfl:q=j:=by omega
     obtain⟨cs',hn'⟩:=ok3 q cs hj2;rw[h1]at hn';cases hn'
    ·obtain⟨j,hj,hj2⟩:=z30 h5;obtain rfl:q=j:=by omega
     obtain⟨i',b1,b2,b3⟩:=hR q e1 W1 n1 hj2;have:backAt I k i'=some (1000+q):=by simp[backAt,z78 hI b1]
     have:=(out_back this).1;rw[h2]at this;cases this;exact⟨_,cap',b3,by rw[←h6];exact(hγin b1).symm⟩
 have hw0:=h.mem.low.size;have hdd:∀{q q' i:Nat},rhoOut I k (1000+q)=some i→rhoOut I k (1000+q')=some i→q=q':=fun h1 h2=>by
  have a1:=hback h1;rw[hback h2]at a1;have:=Option.some.inj a1;omega
 have hoold:∀{d},B.old d→∀q<4,d≠newId k q:=fun ho q hq e=>by have:=ho.2;unfold newId at e;omega
 have hXlow:∀{d b},objX (envIn E I) os d b→B.w0.heap.size≤b∨∃d,B.X d b:=by
  intro d b hx;rcases hXbox hx with⟨i',c,b1,b2,b3⟩|⟨i',q,cap,b1,b2,_,b3⟩
  ·rcases(h.mem.box i' c b1).2 with h1|h1
   ·rw[b3]at h1;exact .inl h1
   ·rw[b3]at h1;exact .inr ⟨_,h1⟩
  ·rcases h.mem.row i' q.1 q.2.1 q.2.2 b1 with⟨h3,_⟩|⟨b',c',h3,h4,_⟩
   ·rw[h3]at b3;cases b3
   ·rw[h3]at b3;cases b3;rcases h4 with h4|h4
    ·exact .inl h4
    ·exact .inr ⟨_,h4⟩
 refine h.step rfl ⟨fun i cs' hi=> ?_,fun i e W n hi=> ?_,fun i i' cs cs' e1 e2 e3=> ?_,fun i i' cs q b cap e1 e2 e3=> ?_,fun i i' q q' b cap cap' e1 e2 e3 e4=> ?_,hm.lt,?_,fun b o u h1 h2=> ?_,fun b o h1=> ?_,⟨fun d ho=>(hβ (hoold ho)).trans (h.mem.pas.β d ho),fun d ho h0=> ?_,fun d e W n ho hd=> ?_⟩⟩ hk (fun d hd=>⟨hβ (hmold hd),rfl⟩) (fun d e W n hd=>hrr d e W n hd) (fun d z p hd=> ?_) h.ii hmaps
 ·rcases hboxI hi with⟨q,c0,a1,a2,a3,a4⟩|⟨a1,a2,a3⟩
  ·rw[a4];obtain⟨b1,b2⟩:=hm.box (1000+q) c0 (objB_eq a1);refine⟨⟨b1.lt,b1.obj,b1.fz,fun j c hc=> ?_,b1.out⟩,?_⟩
   ·obtain⟨l1,l2⟩:=z42 a3;have hj:j<c0.length:=by rw[l1];exact(gJ hc).1
    obtain⟨z,z1,z2⟩:=l2 j c0[j] (gE hj);rw[hc]at z1;cases z1;obtain⟨v,c1,c2,c3⟩:=b1.cell j c0[j] (gE hj);exact⟨v,c1,c2,ren1_rel hren (fun _ _ _ h _=>h) c3 z2⟩
   ·rcases hboxW a1 a2 with h1|⟨cs,h1,h2⟩
    ·exact .inl (by omega)
    ·rw[←h2];exact(h.mem.box i cs h1).2
  ·rw[a3];obtain⟨b1,b2⟩:=h.mem.box i cs' a1;have hsame:w'.heap[E.β i]?=w.heap[E.β i]?:=hm.low.block _ b1.lt (hboxsame a1 a2);refine⟨⟨Nat.lt_of_lt_of_le b1.lt hm.low.size,by rw[hsame];exact b1.obj,fun o=>(World.frozen?_of_block (w:=w) (a:=⟨E.β i,o,none⟩) hsame).trans (b1.fz o),fun j c hc=> ?_,fun o ho=> ?_⟩,b2⟩
   ·obtain⟨v,c1,c2,c3⟩:=b1.cell j c hc;exact⟨v,(World.cell?_of_block (w:=w) (a:=⟨E.β i,j,none⟩) hsame).trans c1,c2,hmono (fun d hd=> .inr ⟨i,cs',c,a1,gM hc,hd⟩) c3⟩
   ·rcases hm.knew _ _ ho with h1|h1|⟨d,h1⟩
    ·exact b1.out o h1
    ·have:=b1.lt;have h1:w.heap.size≤E.β i:=h1;omega
    ·exact hboxsame a1 a2 d h1
 ·rcases hrowI hi with⟨q,a1,a2,a3⟩|⟨a1,a2,a3⟩
  ·rw[a3];rcases hm.row (1000+q) e W n (z58 a1)with h1|⟨b,cap,h1,h2,h3⟩
   ·exact .inl h1
   ·refine .inr ⟨b,cap,h1,?_,h3.cells,h3.le,h3.max,h3.out⟩;rcases hrowW a1 a2 h1 with h4|⟨q0,cap0,h4,h5⟩
    ·exact .inl (by omega)
    ·rcases h.mem.row i q0.1 q0.2.1 q0.2.2 h4 with⟨h6,_⟩|⟨b',c',h6,h7,_⟩
     ·rw[h6]at h5;cases h5
     ·rw[h6]at h5;cases h5;exact h7
  ·rw[a3];rcases h.mem.row i e W n a1 with h1|⟨b,cap,h1,h2,h3⟩
   ·exact .inl h1
   ·obtain⟨cur,hc,hs⟩:=h3.cells;have hlt:=(gA hc).1;have hX:=hrowsame a1 a2 h1;refine .inr ⟨b,cap,h1,h2,⟨cur,(hm.low.block b hlt hX).trans hc,hs⟩,h3.le,h3.max,fun o ho=> ?_⟩;rcases hm.knew _ _ ho with h4|h4|⟨d,h4⟩
    ·exact h3.out o h4
    ·have h4:w.heap.size≤b:=h4;omega
    ·exact absurd h4 (hX d)
 ·rcases hboxI e1 with⟨q,c0,a1,a2,a3,a4⟩|⟨a1,a2,a3⟩<;>rcases hboxI e2 with⟨q',c0',b1,b2,b3,b4⟩|⟨b1,b2,b3⟩
  ·rw[a4,b4]at e3;have:=hm.bb _ _ _ _ (objB_eq a1) (objB_eq b1) e3;obtain rfl:q=q':=by omega
   rw[a2]at b2;exact Option.some.inj b2
  ·rw[a4,b3]at e3;have:=(h.mem.box i' _ b1).1.lt;rcases hboxW a1 a2 with h1|⟨c,h1,h2⟩
   ·omega
   ·exact h.mem.bb i i' _ _ h1 b1 (h2.trans e3)
  ·rw[a3,b4]at e3;have:=(h.mem.box i _ a1).1.lt;rcases hboxW b1 b2 with h1|⟨c,h1,h2⟩
   ·omega
   ·exact h.mem.bb i i' _ _ a1 h1 (e3.trans h2.symm)
  ·rw[a3,b3]at e3;exact h.mem.bb i i' _ _ a1 b1 e3
 ·obtain⟨e,W,n⟩:=q;rcases hboxI e1 with⟨q,c0,a1,a2,a3,a4⟩|⟨a1,a2,a3⟩<;>rcases hrowI e2 with⟨q',b1,b2,b3⟩|⟨b1,b2,b3⟩
  ·rw[a4];rw[b3]at e3;exact hm.br _ _ _ _ b cap (objB_eq a1) (z58 b1) e3
  ·rw[a4];rw[b3]at e3;obtain⟨c,e',hc⟩:=hrowlt b1 e3;have:=(gA hc).1;rcases hboxW a1 a2 with h1|⟨c,h1,h2⟩
   ·omega
   ·rw[←h2];exact h.mem.br i i' _ _ b cap h1 b1 e3
  ·rw[a3];rw[b3]at e3;have:=(h.mem.box i _ a1).1.lt;rcases hrowW b1 b2 e3 with h1|⟨q0,cap0,h1,h2⟩
   ·omega
   ·exact h.mem.br i i' _ _ b cap0 a1 h1 h2
  ·rw[a3];rw[b3]at e3;exact h.mem.br i i' _ _ b cap a1 b1 e3
 ·obtain⟨e,W,n⟩:=q;obtain⟨e',W',n'⟩:=q';rcases hrowI e1 with⟨q,a1,a2,a3⟩|⟨a1,a2,a3⟩<;>rcases hrowI e2 with⟨q',b1,b2,b3⟩|⟨b1,b2,b3⟩
  ·rw[a3]at e3;rw[b3]at e4;have:=hm.rr _ _ _ _ b cap cap' (z58 a1) (z58 b1) e3 e4;obtain rfl:q=q':=by omega
   rw[a2]at b2;exact Option.some.inj b2
  ·rw[a3]at e3;rw[b3]at e4;obtain⟨c,e',hc⟩:=hrowlt b1 e4;have:=(gA hc).1;rcases hrowW a1 a2 e3 with h1|⟨q0,cap0,h1,h2⟩
   ·omega
   ·exact h.mem.rr i i' _ _ b cap0 cap' h1 b1 h2 e4
  ·rw[a3]at e3;rw[b3]at e4;obtain⟨c,e',hc⟩:=hrowlt a1 e3;have:=(gA hc).1;rcases hrowW b1 b2 e4 with h1|⟨q0,cap0,h1,h2⟩
   ·omega
   ·exact h.mem.rr i i' _ _ b cap cap0 a1 h1 e3 h2
  ·rw[a3]at e3;rw[b3]at e4;exact h.mem.rr i i' _ _ b cap cap' a1 b1 e3 e4
 ·refine⟨hm.low.os.trans h.mem.low.os,hm.low.tape.trans h.mem.low.tape,hm.low.output.trans h.mem.low.output,Nat.le_trans hw0 hm.low.size,fun b hb hx=> ?_⟩;refine(hm.low.block b (Nat.lt_of_lt_of_le hb hw0) (fun d hd=> ?_)).trans (h.mem.low.block b hb hx);rcases hXlow hd with h1|⟨d',h1⟩
  ·omega
  ·exact hx d' h1
 ·obtain⟨h3,h4⟩:=h.mem.keep b o u h1 h2;exact hm.keep b o u h3 h4
 ·rcases hm.knew b o h1 with h2|h2|⟨d,h2⟩
  ·exact h.mem.knew b o h2
  ·exact .inr (.inl (Nat.le_trans hw0 h2))
  ·rcases hXlow h2 with h3|h3
   ·exact .inr (.inl h3)
   ·exact .inr (.inr h3)
 ·refine(hγbox (hoold ho) (fun e W n hlk=> ?_)).trans (h.mem.pas.γ d ho h0);obtain⟨q,m,a1,a2,a3,a4⟩:=hL hlk;have hmem:d∈I:=by
   apply Classical.byContradiction;intro hno;rw[hold d (hoold ho) hno]at a2;cases a2
  obtain⟨j,h1,h2,h3,h4⟩:=hposIn hmem;obtain rfl:j=q:=by rw[h3]at a2;have:=Option.some.inj a2;omega
  cases m with
  |box cs=>simp only[MO.ren]at a4;obtain⟨_,_,h6⟩:=gO a4;cases h6
  |row e1 W1 n1=>
   cases hx:os[j]with
   |box cs=>
    obtain⟨cs',hcs'⟩:=ok3 j cs (by rw[←hx];exact gE h4);rw[hcs']at a1;cases a1
   |row e0 W0 n0=>
    obtain⟨i',b1,b2,b3⟩:=hR j e0 W0 n0 (by rw[←hx];exact gE h4);rw[h1]at b1;cases b1;obtain⟨n2,c1,_⟩:=h.mem.pas.row d e0 W0 n0 ho b3;rw[h0]at c1;cases c1
 ·rcases hrowI hd with⟨q,a1,a2,a3⟩|⟨a1,a2,a3⟩
  ·have hb:=hback a2;have hmem:d∈I:=by
    apply Classical.byContradiction;intro hno;rw[hold d (hoold ho) hno]at hb;cases hb
   obtain⟨j,h1,h2,h3,h4⟩:=hposIn hmem;obtain rfl:j=q:=by rw[h3]at hb;have:=Option.some.inj hb;omega
   cases hx:os[j]with
   |box cs=>
    obtain⟨cs',hcs'⟩:=ok3 j cs (by rw[←hx];exact gE h4);rw[hcs']at a1;cases a1
   |row e0 W0 n0=>
    have hxo:os[j]?=some (.row e0 W0 n0):=by rw[←hx];exact gE h4
    obtain⟨i',b1,b2,b3⟩:=hR j e0 W0 n0 hxo;rw[h1]at b1;cases b1;obtain⟨n',c1,c2,c3⟩:=hl.row (1000+j) e0 W0 n0 (z58 hxo);rw[z58 a1]at c1;have c1':=Option.some.inj c1;simp only[Prod.mk.injEq]at c1';obtain⟨rfl,rfl,rfl⟩:=c1';obtain⟨n2,d1,d2,d3⟩:=h.mem.pas.row d e W n0 ho b3;refine⟨n2,d1,by omega,fun he=> ?_⟩;have e1:n2=n0:=by omega
    have e2:n0=n:=by omega
    rw[a3,c3 e2,hγin h1];exact d3 e1
  ·rw[a3];exact h.mem.pas.row d e W n ho a1
 ·obtain⟨h1,h2⟩:=h.itr d z p hd;refine⟨(hm.low.block _ (gA h1).1 (fun d' hx=> ?_)).trans h1,h2⟩;rcases hXbox hx with⟨i',c,b1,b2,b3⟩|⟨i',q,cap,b1,b2,_,b3⟩
  ·obtain⟨c',e',z',ho⟩:=(h.mem.box i' c b1).1.obj;rw[b3,h1]at ho;cases ho
  ·obtain⟨c',e',hc⟩:=hrowlt b1 b3;rw[h1]at hc;cases hc
end
end
section
section
variable{B:Base}{s:FS}{a:Act}{w w':World}{E E':Env}{r:Rows}{P:Program}{C:Oracle}
variable{d:Nat}
theorem z29{x:Arg}{t:TV}(h:x.get s=some t)(hm:Ment d t):s.ment d:=by
 cases x with
 |tmp k=>exact .inl ⟨k,t,h,hm⟩
 |val v=>simp[Arg.get]at h;subst h;cases hm
theorem cells_ment{t c:TV}{cs:List TV}(h:t.cells=some cs)(hc:c∈cs)(hm:Ment d c):Ment d t:=by
 cases t with
 |agg cs'=>simp[TV.cells]at h;subst h;exact .agg hc hm
 |tuple ts=>simp[TV.cells]at h
 |pv p=>
  cases p with
  |v x=>
   simp only[TV.cells]at h
   grind
  |_=>grind [TV.cells]
 |unk=>simp[TV.cells]at h
 |_=>grind [TV.cells]
theorem z101{t:TypeId}{i:TypeInfo}(h:P.info? t=some i)(w:World):(sizeOf t).run P w=.ok i.size w:=by simp[sizeOf,typeInfo,h]
theorem run_isAgg{t:TypeId}{d:TypeDesc}(h:P.underlying t=some d)(w:World):(isAgg t).run P w=.ok d.isRow w:=by
 unfold isAgg;rw[Sem.run_bind,run_underlying h w];cases d<;>simp_all [TypeDesc.isRow]
theorem z163(b o:Nat)(ty:TypeId)(d:TypeDesc)(i:TypeInfo)(vs:List Value)(hu:P.underlying ty=some d)(hi:P.info? ty=some i)(hc:w.rangeAt b o vs)(hl:if d.isRow then vs.length=i.size else vs.length=1):
  (loadVar ty ⟨b,o,none⟩).run P w=.ok (if d.isRow then .agg vs.toArray else vs.getD 0 undef) w:=by
 cases hd:d.isRow with
 |true=>
  simp only[hd,if_true]at hl ⊢;exact run_loadVar_mid w b o ty vs d hc hu hd (by rw[hi,hl];rfl)
 |false=>
  simp only[hd,Bool.false_eq_true,if_false]at hl ⊢;obtain⟨v,rfl⟩:∃v,vs=[v]:=by cases vs with|nil=>simp at hl|cons v r=>cases r with|nil=>exact⟨v,rfl⟩|cons=>simp at hl
  have h0:=hc 0 v rfl;simp only[Nat.add_zero]at h0;unfold loadVar;rw[Sem.run_bind,run_isAgg hu,hd];simp_all
theorem z192(b o:Nat)(ty:TypeId)(i:TypeInfo)(v:Value)(us:List Value)(hv:v.cells=us.toArray)(hi:P.info? ty=some i)(hl:us.length=i.size)(ht:w.there b o us.length)(h1:∀u∈us,one u):
  (storeVar ty ⟨b,o,none⟩ v).run P w=.ok () (w.setCells b o us):=by
 have:=run_storeCells_cells (P:=P) b o us 0 w (fun j hj=>by simpa using(ht j hj).1) (fun j hj=>by simpa using(ht j hj).2) h1;simp only[Nat.add_zero]at this;simp[storeVar,sizeOf,typeInfo,hi,hv,hl,this]
theorem does_ld(h:Sim B s a w E){o:Oper}{t:TypeId}{x:Operand}(ho:o.op=.load t x){d:TypeDesc}{i:TypeInfo}(hu:P.underlying t=some d)(hi:P.info? t=some i)
  {y:TV} {u:Upd} (he:eff P C o.dst (if d.isRow then .ld true i.size (.of x)else .ld false 1 (.of x)) s=some (y,u)):u=.no∧Does P B s y a w o:=by
 have key:∀(b off:Nat) (cs:List TV) (vs:List Value),a.eval x=.pointer (some ⟨b,off,none⟩)→RelL w E s.r cs vs→w.rangeAt b off vs→
   (if d.isRow then(cs.length=i.size∧y=.agg cs)else(cs.length=1∧cs[0]?=some y))→Does P B s y a w o:=by
  intro b off cs vs hx hrel hr hy;have hrun:=z163 (P:=P) (w:=w) b off t d i vs hu hi hr (by
   cases hd:d.isRow<;>simp only[hd,if_true,if_false,Bool.false_eq_true]at hy ⊢
   ·rw[←hrel.len];exact hy.1
   ·rw[←hrel.len];exact hy.1)
  refine z183 h (v:=if d.isRow then .agg vs.toArray else vs.getD 0 undef) ?_ ?_
  ·simp[execOp,ho,hx,Instr.loadAt,Instr.sureAddr,hrun,Result.andThen]
  ·cases hd:d.isRow<;>simp only[hd,if_true,if_false,Bool.false_eq_true]at hy ⊢
   ·have hl:0<vs.length:=by rw[←hrel.len];omega
    refine hrel.at_ 0 y _ hy.2 ?_;rw[List.getD_eq_getElem?_getD,gE hl];rfl
   ·rw[hy.2];exact hrel.agg
 have hget:∀z,(Arg.of x).get s=some z→RelT w E s.r z (a.eval x):=fun z hz=>z17 h hz;generalize hR:d.isRow=R at he key;cases R with
 |true=>
  simp only[eff,if_true]at he;split at he
  ·rename_i dd off hg;obtain⟨cs,hb,he⟩:=gB he;split at he
   ·rename_i hle;cases he;refine⟨rfl,?_⟩;have hx:=hget _ hg;generalize hv:a.eval x=v at hx;cases hx;obtain⟨hbox,_⟩:=h.mem.box dd cs hb;obtain⟨vs,hrel,hcell⟩:=box_rel hbox;refine key (E.β dd) off ((cs.drop off).take i.size) ((vs.drop off).take i.size) hv ((hrel.drop off).take _) (fun j v hv'=> ?_) ?_
    ·have hj:j<i.size:=by have:=(gJ hv').1;simp at this;omega
     simp[hj]at hv';exact hcell _ _ hv'
    ·simp;omega
   ·cases he
  ·rename_i cs hg;split at he
   ·rename_i hle;cases he;refine⟨rfl,?_⟩;have hx:=hget _ hg;generalize hv:a.eval x=v at hx;cases hx with
    |pv hx=>
    cases hx with
    |el _ b off f hc hs=>
    refine key b off ((cs.take i.size).map .pv) ((List.range i.size).map f) hv ⟨by simp;omega,fun j c v hc' hv'=> ?_,fun v hv'=> ?_⟩ (fun j v hv'=> ?_) ?_
    ·have hj:j<i.size:=by have:=(gJ hv').1;simpa using this
     simp[hj]at hc' hv';obtain⟨p,hp,rfl⟩:=hc';subst hv';exact .pv (hs j p hp)
    ·obtain⟨j,hj,rfl⟩:=List.mem_map.1 hv';have hj':j<i.size:=by simpa using hj
     exact(hc j cs[j] (gE (by omega))).2.2
    ·have hj:j<i.size:=by have:=(gJ hv').1;simpa using this
     simp[hj]at hv';subst hv';exact(hc j (cs[j]'(by omega)) (gE (by omega))).2.1
    ·simp;omega
   ·cases he
  ·cases he
 |false=>
  simp only[eff,Bool.false_eq_true,if_false]at he;split at he
  ·rename_i dd off hg;obtain⟨cs,hb,he⟩:=gB he;obtain⟨c,hc,he⟩:=gO he;cases he;refine⟨rfl,?_⟩;have hx:=hget _ hg;generalize hv:a.eval x=v at hx;cases hx;obtain⟨hbox,_⟩:=h.mem.box dd cs hb;obtain⟨v,h1,h2,h3⟩:=hbox.cell off y hc;refine key (E.β dd) off [y] [v] hv ⟨rfl,fun j c' v' hc' hv'=> ?_,fun u hu=>by simp at hu;subst hu;exact h2⟩ (fun j u hu=> ?_) ?_
   ·cases j with
    |zero=>simp at hc' hv';subst hc';subst hv';exact h3
    |succ j=>simp at hc'
   ·cases j with
    |zero=>simp at hu;subst hu;exact h1
    |succ j=>simp at hu
   ·simp
  ·rename_i cs hg;obtain⟨c,hc,he⟩:=gO he;cases he;refine⟨rfl,?_⟩;have hx:=hget _ hg;generalize hv:a.eval x=v at hx;cases hx with
   |pv hx=>
   cases hx with
   |el _ b off f hc1 hs1=>
   obtain⟨_,h1,h2⟩:=hc1 0 c hc;refine key b off [.pv c] [f 0] hv ⟨rfl,fun j c' v' hc' hv'=> ?_,fun u hu=>by simp at hu;subst hu;exact h2⟩ (fun j u hu=> ?_) ?_
   ·cases j with
    |zero=>simp at hc' hv';subst hc';subst hv';exact .pv (hs1 0 c hc)
    |succ j=>simp at hc'
   ·cases j with
    |zero=>simp at hu;subst hu;exact h1
    |succ j=>simp at hu
   ·simp
  ·cases he
theorem does_st(h:Sim B s a w E){o:Oper}{t:TypeId}{x y:Operand}(ho:o.op=.store t x y){i:TypeInfo}(hi:P.info? t=some i)
  {z:TV} {u:Upd} (he:eff P C o.dst (.st i.size (.of x) (.of y)) s=some (z,u)):Does P B (s.upd o.dst u) z a w o:=by
 simp only[eff]at he;split at he
 ·rename_i dd off hg;obtain⟨cs,hb,he⟩:=gB he;obtain⟨xs,hxs,he⟩:=gB he;obtain⟨ty,hy1,hy2⟩:=gB hxs;split at he
  ·rename_i hle;cases he;have hx:=z17 h hg;generalize hv:a.eval x=v at hx;cases hx;obtain⟨us,hu1,hu2⟩:=z176 (z17 h hy1) hy2;obtain⟨hbox,_⟩:=h.mem.box dd cs hb;have hlen:=hu2.len;have hrun:=z192 (P:=P) (w:=w) (E.β dd) off t i (a.eval y) us hu1 hi (by omega) (fun j hj=>⟨by
    obtain⟨c,hc⟩:∃c,cs[off+j]?=some c:=⟨_,gE (by omega)⟩
    obtain⟨v,h1,_⟩:=hbox.cell _ c hc;rw[h1];rfl,hbox.fz _⟩) hu2.ones
   refine⟨.skip,undef,w.setCells (E.β dd) off us,E,?_,.inr ⟨rfl,rfl⟩,h.wr hb xs us hlen (by omega) hu2.at_ hu2.ones,.pv (.v _)⟩;simp[execOp,ho,hv,Instr.storeAt,Instr.sureAddr,hrun,Result.andThen]
  ·cases he
 ·cases he
theorem does_box(h:Sim B s a w E){o:Oper}{t:TypeId}{x:Operand}(ho:o.op=.box t x)(hno:∀d,o.dst=some d→¬B.old d)(hf:∀d,o.dst=some d→Fresh s d){z:TV}{u:Upd}(he:eff P C o.dst (.box (.of x)) s=some (z,u)):Does P B (s.upd o.dst u) z a w o:=by
 simp only[eff]at he;cases hd:o.dst with
 |none=>grind
 |some d=>
  rw[hd]at he;obtain⟨cs,h1,he⟩:=gO he;obtain⟨ty,h2,h3⟩:=gB h1;cases he;obtain⟨us,hu1,hu2⟩:=z176 (z17 h h2) h3;have hm:∀c∈cs,¬Ment d c:=by
   intro c hc hmc;exact(hf d hd).1 (z29 h2 (cells_ment h3 hc hmc))
  obtain⟨E',hE,hS⟩:=h.newB (hno d hd) (hf d hd) t cs us hu2.len hu2.at_ hu2.ones hm;refine⟨.value (.pointer (some ⟨w.heap.size,0,none⟩)),_,w.alloc (.cells us.toArray t),E',?_,.inl rfl,hS,?_⟩
  ·simp[execOp,ho,Instr.box,newVar,newRow,hu1,Result.andThen]
  ·rw[←hE];exact .ptr d 0
theorem does_new(h:Sim B s a w E){o:Oper}{t:TypeId}(ho:o.op=.alloc t)(hno:∀d,o.dst=some d→¬B.old d)(hf:∀d,o.dst=some d→Fresh s d){i:TypeInfo}{zv:Value}(hi:P.info? t=some i)(hz:i.zero=some zv)(h1:zv.cells.toList.all (·.oneCell')=true)
  {z:TV} {u:Upd} (he:eff P C o.dst (.new zv.cells.toList) s=some (z,u)):Does P B (s.upd o.dst u) z a w o:=by
 simp only[eff]at he;cases hd:o.dst with
 |none=>grind
 |some d=>
  rw[hd]at he;cases he;have hones:∀v∈zv.cells.toList,one v:=fun v hv=>List.all_eq_true.1 h1 v hv;have hrel:=RelL.ofVals (w:=w) (E:=E) (r:=s.r) hones;obtain⟨E',hE,hS⟩:=h.newB (hno d hd) (hf d hd) t _ zv.cells.toList hrel.len hrel.at_ hones (by
   intro c hc hmc;obtain⟨v,_,rfl⟩:=List.mem_map.1 hc;cases hmc)
  refine⟨.value (.pointer (some ⟨w.heap.size,0,none⟩)),_,w.alloc (.cells zv.cells t),E',?_,.inl rfl,(by simp only[Array.toArray_toList]at hS;exact hS),?_⟩
  ·simp[execOp,ho,Instr.alloc,zeroValue,typeInfo,hi,hz,newVar,newRow,Result.andThen]
  ·rw[←hE];exact .ptr d 0
theorem does_build(h:Sim B s a w E){o:Oper}{t:TypeId}{parts:Array (Nat×Operand)}(ho:o.op=.build t parts){i:TypeInfo}{fs:Array Field}{zv:Value}(hi:P.info? t=some i)(hu:P.underlying t=some (.struct fs))(hz:i.zero=some zv)
    (h1 : zv.cells.toList.all (·.oneCell') = true) {ps : List (Nat × Nat × Arg)} (hps : seqO (fun p : Nat × Operand => match fs[p.1]? with
          |some f=>(P.info? f.type).map fun j=>(f.offset,j.size,Arg.of p.2)
          |none=>none) parts.toList=some ps)
    (hfs:∀(k:Nat) f,fs[k]?=some f→∃j,P.info? f.type=some j)
    {z:TV} {u:Upd} (he:eff P C o.dst (.build zv.cells.toList ps) s=some (z,u)):u=.no∧Does P B s z a w o:=by
  simp only[eff]at he
  obtain⟨qs,hq,he⟩:=gB he
  obtain⟨cs',hf,he⟩:=gO he
  cases he
  refine⟨rfl,?_⟩
  have hones:∀v∈zv.cells.toList,one v:=fun v hv=>List.all_eq_true.1 h1 v hv
  have hrel:=RelL.ofVals (w:=w) (E:=E) (r:=s.r) hones
  obtain⟨l1,hs1⟩:=z42 hps
  obtain⟨l2,hs2⟩:=z42 hq
  have hsz:∃places:Array (Nat×Nat),(fs.mapM (m:=Sem) fun f=>Prod.mk f.offset<$>sizeOf f.type).run P w=.ok places w∧∀(k:Nat) f j,fs[k]?=some f→P.info? f.type=some j→places[k]?=some (f.offset,j.size):=by
    have:∀(l:List Field),(∀f∈l,∃j,P.info? f.type=some j)→∃pl:List (Nat×Nat),(l.mapM (m:=Sem) fun f=>Prod.mk f.offset<$>sizeOf f.type).run P w=.ok pl w∧∀(k:Nat) f j,l[k]?=some f→P.info? f.type=some j→pl[k]?=some (f.offset,j.size):=by
      intro l
      induction l with
      |nil=>exact fun _=>⟨[],rfl,by simp⟩
      |cons f l ih=>
        intro hl
        obtain⟨pl,hp1,hp2⟩:=ih fun g hg=>hl g (List.mem_cons_of_mem _ hg)
        obtain⟨j,hj⟩:=hl f (List.mem_cons_self ..)
        refine⟨(f.offset,j.size)::pl,?_,fun k g q hk hq'=> ?_⟩
        · simp[List.mapM_cons,z101 hj,Result.andThen,hp1]
        · cases k with
          |zero=>simp at hk;subst hk;rw[hj]at hq';cases hq';rfl
          |succ k=>simpa using hp2 k g q (by simpa using hk) hq'
    obtain⟨pl,hp1,hp2⟩:=this fs.toList (fun f hf=>by
      obtain⟨k,hk⟩:=List.getElem?_of_mem hf
      exact hfs k f (by simpa using hk))
    refine⟨pl.toArray,?_,fun k f j hk hj=>by simpa using hp2 k f j (by simpa using hk) hj⟩
    rw[←Array.toArray_toList (xs:=fs),List.mapM_toArray]
    simp[hp1,Result.andThen]
  obtain⟨places,hpl,hplaces⟩:=hsz
  obtain⟨vs',hfill,hrel'⟩:=fill_rel (place:=fun k=>places[k]?) (parts:=(parts.map fun p=>(p.1,a.eval p.2)).toList) (ps:=qs) (vs:=zv.cells.toList) hrel (by simp;rw[←Array.length_toList,l1,l2]) (fun j p q hp hq'=>by
    simp only[Array.toList_map,List.getElem?_map]at hp
    obtain⟨⟨k,x⟩,hx,rfl⟩:=gO hp
    obtain⟨y,hy1,hy2⟩:=hs1 j (k,x) hx
    obtain⟨y',hy1',hy2'⟩:=hs2 j y hy1
    rw[hq']at hy1';cases hy1'
    dsimp only at hy2
    split at hy2
    · rename_i f hf1
      obtain⟨jj,hj1,hj2⟩:=gO hy2
      subst hj2
      dsimp only at hy2'
      obtain⟨xs,hxs,he2⟩:=gO hy2'
      subst he2
      obtain⟨ty,ht1,ht2⟩:=gB hxs
      obtain⟨us,hu1,hu2⟩:=z176 (z17 h ht1) ht2
      exact⟨hplaces k f jj hf1 hj1,us,hu1,hu2⟩
    · cases hy2) hf
  refine z183 h (v:=.agg vs'.toArray) ?_ hrel'.agg
  have hzv:zv.cells.toList.toArray=zv.cells:=by simp
  rw[hzv]at hfill
  simp only[Array.toList_map]at hfill
  simp[execOp,ho,Instr.build,zeroValue,typeInfo,hi,hz,run_underlying hu,Result.andThen,hpl,hfill]
theorem does_buildA(h:Sim B s a w E){o:Oper}{t e:TypeId}{n:Nat}{parts:Array (Nat×Operand)}(ho:o.op=.build t parts){i j:TypeInfo}{zv:Value}(hi:P.info? t=some i)(hu:P.underlying t=some (.array n e))(hz:i.zero=some zv)(hj:P.info? e=some j)
  (h1:zv.cells.toList.all (·.oneCell')=true) {z:TV} {u:Upd} (he:eff P C o.dst (.build zv.cells.toList (parts.toList.map fun p=>(p.1*j.size,j.size,Arg.of p.2))) s=some (z,u)):u=.no∧Does P B s z a w o:=by
 simp only[eff]at he;obtain⟨qs,hq,he⟩:=gB he;obtain⟨cs',hf,he⟩:=gO he;cases he;refine⟨rfl,?_⟩;have hones:∀v∈zv.cells.toList,one v:=fun v hv=>List.all_eq_true.1 h1 v hv;have hrel:=RelL.ofVals (w:=w) (E:=E) (r:=s.r) hones;obtain⟨l2,hs2⟩:=z42 hq;obtain⟨vs',hfill,hrel'⟩:=fill_rel (place:=fun k=>some (k*j.size,j.size)) (parts:=(parts.map fun p=>(p.1,a.eval p.2)).toList) (ps:=qs) (vs:=zv.cells.toList) hrel (by simp at l2 ⊢;omega) (fun q p y hp hq'=>by
  simp only[Array.toList_map,List.getElem?_map]at hp;obtain⟨⟨k,x⟩,hx,rfl⟩:=gO hp;obtain⟨y',hy1',hy2'⟩:=hs2 q (k*j.size,j.size,Arg.of x) (by rw[List.getElem?_map,hx];rfl);rw[hq']at hy1';cases hy1'
  dsimp only at hy2'
  obtain⟨xs,hxs,he2⟩:=gO hy2';subst he2;obtain⟨ty,ht1,ht2⟩:=gB hxs;obtain⟨us,hu1,hu2⟩:=z176 (z17 h ht1) ht2;exact⟨rfl,us,hu1,hu2⟩) hf
 refine z183 h (v:=.agg vs'.toArray) ?_ hrel'.agg;have hzv:zv.cells.toList.toArray=zv.cells:=by simp
 rw[hzv]at hfill;simp only[Array.toList_map]at hfill;simp[execOp,ho,Instr.build,zeroValue,typeInfo,hi,hz,run_underlying hu,z101 hj,Result.andThen,hfill]
end
end
section
section
variable{B:Base}{s:FS}{a:Act}{w w':World}{E E':Env}{r:Rows}{P:Program}{C:Oracle}
theorem fillSeq{W:Nat}:∀(vs:List Value) (k:Nat) (arr:Array Value),(∀v∈vs,v.cells.size=W)→arr.size=(k+vs.length)*W→
  ∃res:Array Value,Instr.fill (fun i=>some (i*W,W)) arr ((vs.zipIdx k).map fun p=>(p.2,p.1))=some res∧res.toList=arr.toList.take (k*W)++vs.flatMap (·.cells.toList)
 |[],k,arr,_,h=>⟨arr,rfl,by simp at h ⊢;rw[List.take_of_length_le (by simp[h])]⟩
 |v::vs,k,arr,hv,h=>by
  have hvl:=hv v (List.mem_cons_self ..);have hsz:k*W+W≤arr.size:=by rw[h];simp only[List.length_cons];rw[←Nat.succ_mul];exact Nat.mul_le_mul_right W (by omega)
  have hfold:=foldSet v.cells.toList (k*W) 0 arr (by simp[hvl];omega);have hl:(splice arr.toList (k*W) v.cells.toList).length=arr.toList.length:=z182 (by simp[hvl];omega);simp only[Nat.add_zero]at hfold;obtain⟨res,h1,h2⟩:=fillSeq vs (k+1) (splice arr.toList (k*W) v.cells.toList).toArray (fun u hu=>hv u (List.mem_cons_of_mem _ hu)) (by
   simp only[List.size_toArray,hl];simp only[Array.length_toList,h,List.length_cons];congr 1;omega)
  refine⟨res,?_,?_⟩
  ·simp only[List.zipIdx_cons,List.map_cons,Instr.fill,hvl];have hcond:(W≠W||k*W+W>arr.size)=false:=by simp;omega
   rw[hcond];simp only[Bool.false_eq_true,if_false];have:v.cells.zipIdx.foldl (fun(cs:Array Value) (cj:Value×Nat)=>cs.setIfInBounds (k*W+cj.2) cj.1) arr=(splice arr.toList (k*W) v.cells.toList).toArray:=by
    have hus:∀us:List Value,us.toArray.zipIdx.foldl (fun(cs:Array Value) (cj:Value×Nat)=>cs.setIfInBounds (k*W+cj.2) cj.1) arr=us.zipIdx.foldl (fun(cs:Array Value) (cj:Value×Nat)=>cs.setIfInBounds (k*W+cj.2) cj.1) arr:=fun us=>by simp
    have:=hus v.cells.toList;rw[Array.toArray_toList]at this;rw[this,←hfold]
   rw[←h1,←this]
  ·rw[h2,List.flatMap_cons,←List.append_assoc];congr 1;simp only[splice];have e:(k+1)*W=k*W+W:=by rw[Nat.add_mul];omega
   rw[e,List.take_append_of_le_length (by simp[hvl];omega),List.take_of_length_le (by simp[hvl];omega)]
theorem range_pairs{α:Type}{l:List (Nat×α)}(h:l.map (·.1)=List.range l.length):l=((l.map (·.2)).zipIdx 0).map fun p=>(p.2,p.1):=by
 apply List.ext_getElem?;intro i;rcases Nat.lt_or_ge i l.length with hi|hi
 ·have:=congrArg (·[i]?) h
  grind
 ·grind
theorem does_bsl(h:Sim B s a w E){o:Oper}{t e:TypeId}{len:Nat}{parts:Array (Nat×Operand)}(ho:o.op=.buildSlice t len parts){i:TypeInfo}{zv:Value}(hu:P.underlying t=some (.slice e))(hi:P.info? e=some i)(hz:i.zero=some zv)
  (h1:parts.toList.map (·.1)=List.range len∧len*i.size≤16777216∧zv.cells.size=i.size∧0<len*i.size) {z:TV} {u:Upd} (he:eff P C o.dst (.bsl i.size (parts.toList.map fun p=>Arg.of p.2)) s=some (z,u)):u=.no∧Does P B s z a w o:=by
 obtain⟨hr,hsmall,hzl,hpos⟩:=h1;have hlen:parts.toList.length=len:=by have:=congrArg List.length hr;simpa using this
 simp only[eff]at he;obtain⟨es,hes,he⟩:=gB he;split at he
 ·rename_i hall;cases he;refine⟨rfl,?_⟩;obtain⟨l1,hs1⟩:=z42 hes;have l1':parts.toList.length=es.length:=by simpa using l1
  let vals:List Value:=parts.toList.map fun p=>a.eval p.2
  have hel:∀e'∈es,e'.length=i.size:=fun e' he'=>by simpa using List.all_eq_true.1 hall e' he'
  have hrel:∀(k:Nat) ps,es[k]?=some ps→∃(v:Value) (us:List Value),vals[k]?=some v∧v.cells=us.toArray∧ps.length=us.length∧(∀(j:Nat) c u,ps[j]?=some c→us[j]?=some u→RelV w E.K c u∧one u):=by
   intro k ps hk;have hkl:k<parts.toList.length:=by rw[l1'];exact(gJ hk).1
   obtain⟨y,hy1,hy2⟩:=hs1 k (Arg.of (parts.toList[k]).2) (by rw[List.getElem?_map,gE hkl];rfl);rw[hk]at hy1;cases hy1;obtain⟨t',ht1,ht2⟩:=gB hy2;obtain⟨us,hu1,hu2,hu3⟩:=pvs_rel (z17 h ht1) ht2;exact⟨a.eval (parts.toList[k]).2,us,by simp only[vals];rw[List.getElem?_map,gE hkl];rfl,hu1,hu2,hu3⟩
  have hvl:∀v∈vals,v.cells.size=i.size:=by
   intro v hv;obtain⟨k,hk⟩:=List.getElem?_of_mem hv;have hkl:k<es.length:=by rw[←l1'];have:=(gJ hk).1;simpa [vals]using this
   obtain⟨v',us,hv1,hv2,hv3,_⟩:=hrel k es[k] (gE hkl);rw[hk]at hv1;cases hv1;rw[hv2];simp[←hv3,hel _ (List.getElem_mem hkl)]
  have hvlen:vals.length=len:=by simp[vals];simpa using hlen
  obtain⟨res,hf1,hf2⟩:=fillSeq (W:=i.size) vals 0 ((Array.range (len*i.size)).map (zv.cells[·%zv.cells.size]!)) hvl (by simp[hvlen]);simp only[Nat.zero_mul,List.take_zero,List.nil_append]at hf2;have hparts:(parts.map fun p=>(p.1,a.eval p.2)).toList=(vals.zipIdx 0).map fun p=>(p.2,p.1):=by
   have:=range_pairs (l:=(parts.map fun p=>(p.1,a.eval p.2)).toList) (by simp[←hr];rw[←Array.length_toList,hlen];simpa [Function.comp_def]using hr);rw[this];congr 2;simp[vals,Function.comp_def]
  have hrun:=run_buildSlice (P:=P) w t e len (parts.map fun p=>(p.1,a.eval p.2)) res i zv hu hi hz (by omega) (by omega) (by rw[hparts];exact hf1);have hb:Below w.heap.size w (w.alloc (.cells res e)):=(Below.refl _ _).alloc (Nat.le_refl _) _;let E':Env:={ E with K:=fun b o=>E.K b o∨b=w.heap.size }
  have hk:∀b o u,E.K b o→w.cell? ⟨b,o,none⟩=some u→E'.K b o∧(w.alloc (.cells res e)).cell? ⟨b,o,none⟩=some u:=fun b o u h1 h2=>⟨.inl h1,(hb.cell (p:=⟨b,o,none⟩) (z72 h2)).trans h2⟩
  refine⟨.value (.slice (some ⟨w.heap.size,0,none⟩) len len),_,w.alloc (.cells res e),E',?_,.inl rfl,h.ext hb E' (fun _ _ h=> .inl h) (fun b o hbo=> ?_) (fun _ _=>⟨rfl,rfl⟩) (fun _ _ _=>rfl) (fun _ _=>⟨rfl,rfl⟩),?_⟩
  ·simp[execOp,ho,hrun,Result.andThen]
  ·rcases hbo with h1|rfl
   ·exact .inl h1
   ·exact .inr ⟨Nat.le_refl _,by simp⟩
  ·have hesl:es.length=len:=by omega
   rw[←hesl];have hflat:∀(k j:Nat) ps c,es[k]?=some ps→ps[j]?=some c→∃u,res[k*i.size+j]?=some u∧RelV w E.K c u∧one u:=by
    intro k j ps c hk1 hk2;obtain⟨v,us,hv1,hv2,hv3,hv4⟩:=hrel k ps hk1;have hj:j<us.length:=by rw[←hv3];exact(gJ hk2).1
    obtain⟨a1,a2⟩:=hv4 j c us[j] hk2 (gE hj);refine⟨us[j],?_,a1,a2⟩;have hus:us.length=i.size:=by rw[←hv3];exact hel ps (gM hk1)
    rw[←Array.getElem?_toList,hf2];clear hf1 hf2 hrun hparts hb hk;have:∀(vals:List Value) (k:Nat) (v:Value),(∀v∈vals,v.cells.size=i.size)→vals[k]?=some v→∀j,j<i.size→(vals.flatMap (·.cells.toList))[k*i.size+j]?=v.cells.toList[j]?:=by
     intro vals
     induction vals with
     |nil=>intro k v _ hk;simp at hk
     |cons x r ih=>
      intro k v hv hk j hj;have hx:=hv x (List.mem_cons_self ..);rw[List.flatMap_cons];cases k with
      |zero=>simp at hk;subst hk;rw[List.getElem?_append_left (by simp[hx];omega)];simp
      |succ k=>
       have e:(k+1)*i.size+j=i.size+(k*i.size+j):=by rw[Nat.add_mul];omega
       rw[List.getElem?_append_right (by simp[hx];omega)];rw[show(k+1)*i.size+j-x.cells.toList.length=k*i.size+j by simp[hx];omega];exact ih k v (fun u hu=>hv u (List.mem_cons_of_mem _ hu)) (by simpa using hk) j hj
    rw[this vals k v hvl hv1 j (by omega),hv2];simp[hj]
   refine .pv (.sl i.size es w.heap.size 0 es.length _ (fun k j=>(res[k*i.size+j]?).getD undef) (fun _=>rfl) (Nat.le_refl _) ?_ hel (fun k j ps c hk1 hk2=> ?_) (fun k j ps c hk1 hk2=> ?_))
   ·have:es.length≤es.length*i.size:=Nat.le_mul_of_pos_right _ (Nat.pos_of_ne_zero (fun h0=>by rw[h0]at hpos;simp at hpos));unfold maxLen;rw[hesl]at this ⊢;omega
   ·obtain⟨u,hu1,hu2,hu3⟩:=hflat k j ps c hk1 hk2;refine⟨.inr rfl,?_,by simpa [hu1]using hu3⟩;rw[Nat.zero_add,World.cell?_alloc_new,hu1];rfl
   ·obtain⟨u,hu1,hu2,hu3⟩:=hflat k j ps c hk1 hk2;rw[hu1];exact hu2.mono hk
 ·cases he
theorem len_flat{W:Nat}:∀(vs:List Value),(∀v∈vs,v.cells.size=W)→(vs.flatMap (·.cells.toList)).length=vs.length*W
 |[],_=>by simp
 |v::r,h=>by
  rw[List.flatMap_cons,List.length_append,len_flat r (fun u hu=>h u (List.mem_cons_of_mem _ hu)),List.length_cons,Nat.add_mul,Array.length_toList,h v (List.mem_cons_self ..)];omega
theorem bsl_core(h:Sim B s a w E){o:Oper}{t e:TypeId}{len:Nat}{parts:Array (Nat×Operand)}(ho:o.op=.buildSlice t len parts){i:TypeInfo}{zv:Value}(hu:P.underlying t=some (.slice e))(hi:P.info? e=some i)(hz:i.zero=some zv)
  (h1:parts.toList.map (·.1)=List.range len∧len*i.size≤16777216∧zv.cells.size=i.size∧0<len*i.size) {es:List (List PV)} (hes:seqO (fun x:Arg=>(x.get s).bind TV.pvs) (parts.toList.map fun p=>Arg.of p.2)=some es) (hel:∀e'∈es,e'.length=i.size):
  ∃res:Array Value,(execOp a.eval o).run P w=.ok (.value (.slice (some ⟨w.heap.size,0,none⟩) len len)) (w.alloc (.cells res e))∧es.length=len∧res.size=len*i.size∧
   ∀(k j:Nat) ps c,es[k]?=some ps→ps[j]?=some c→∃u,res[k*i.size+j]?=some u∧RelV w E.K c u∧one u:=by
 obtain⟨hr,hsmall,hzl,hpos⟩:=h1;have hlen:parts.toList.length=len:=by have:=congrArg List.length hr;simpa using this
 obtain⟨l1,hs1⟩:=z42 hes;have l1':parts.toList.length=es.length:=by grind
 let vals:List Value:=parts.toList.map fun p=>a.eval p.2
 have hrel:∀(k:Nat) ps,es[k]?=some ps→∃(v:Value) (us:List Value),vals[k]?=some v∧v.cells=us.toArray∧ps.length=us.length∧(∀(j:Nat) c u,ps[j]?=some c→us[j]?=some u→RelV w E.K c u∧one u):=by
  intro k ps hk;have hkl:k<parts.toList.length:=by grind
  obtain⟨y,hy1,hy2⟩:=hs1 k (Arg.of (parts.toList[k]).2) (by rw[List.getElem?_map,gE hkl];rfl);rw[hk]at hy1;cases hy1;obtain⟨t',ht1,ht2⟩:=gB hy2;obtain⟨us,hu1,hu2,hu3⟩:=pvs_rel (z17 h ht1) ht2
  grind
 have hvl:∀v∈vals,v.cells.size=i.size:=by
  intro v hv;obtain⟨k,hk⟩:=List.getElem?_of_mem hv;have hkl:k<es.length:=by grind
  obtain⟨v',us,hv1,hv2,hv3,_⟩:=hrel k es[k] (gE hkl)
  grind
 have hvlen:vals.length=len:=by grind
 obtain⟨res,hf1,hf2⟩:=fillSeq (W:=i.size) vals 0 ((Array.range (len*i.size)).map (zv.cells[·%zv.cells.size]!)) hvl (by simp[hvlen]);simp only[Nat.zero_mul,List.take_zero,List.nil_append]at hf2;have hparts:(parts.map fun p=>(p.1,a.eval p.2)).toList=(vals.zipIdx 0).map fun p=>(p.2,p.1):=by
  have:=range_pairs (l:=(parts.map fun p=>(p.1,a.eval p.2)).toList) (by simp[←hr];rw[←Array.length_toList,hlen];simpa [Function.comp_def]using hr);rw[this];congr 2;simp[vals,Function.comp_def]
 have hrun:=run_buildSlice (P:=P) w t e len (parts.map fun p=>(p.1,a.eval p.2)) res i zv hu hi hz (by omega) (by omega) (by rw[hparts];exact hf1);have hflat:∀(k j:Nat) ps c,es[k]?=some ps→ps[j]?=some c→∃u,res[k*i.size+j]?=some u∧RelV w E.K c u∧one u:=by
  intro k j ps c hk1 hk2;obtain⟨v,us,hv1,hv2,hv3,hv4⟩:=hrel k ps hk1;have hj:j<us.length:=by grind
  obtain⟨a1,a2⟩:=hv4 j c us[j] hk2 (gE hj);refine⟨us[j],?_,a1,a2⟩;have hus:us.length=i.size:=by grind
  rw[←Array.getElem?_toList,hf2];clear hf1 hf2 hrun hparts;have:∀(vals:List Value) (k:Nat) (v:Value),(∀v∈vals,v.cells.size=i.size)→vals[k]?=some v→∀j,j<i.size→(vals.flatMap (·.cells.toList))[k*i.size+j]?=v.cells.toList[j]?:=by
   intro vals
   induction vals with
   |nil=>simp
   |cons x r ih=>
    intro k v hv hk j hj;have hx:=hv x (List.mem_cons_self ..);rw[List.flatMap_cons];cases k with
    |zero=>grind
    |succ k=>
     have e:(k+1)*i.size+j=i.size+(k*i.size+j):=by grind
     rw[List.getElem?_append_right (by simp[hx];omega)];simp_all
  grind
 refine⟨res,by simp[execOp,ho,hrun,Result.andThen],by omega,?_,hflat⟩
 grind [Array.length_toList,len_flat]
theorem does_bslO(h:Sim B s a w E){o:Oper}{t e:TypeId}{len:Nat}{parts:Array (Nat×Operand)}(ho:o.op=.buildSlice t len parts){i:TypeInfo}{zv:Value}(hu:P.underlying t=some (.slice e))(hi:P.info? e=some i)(hz:i.zero=some zv)
  (h1:parts.toList.map (·.1)=List.range len∧len*i.size≤16777216∧zv.cells.size=i.size∧0<len*i.size) {d:Nat} (hno:¬B.old d) (hf:Fresh s d) {es:List (List PV)} (hes:seqO (fun x:Arg=>(x.get s).bind TV.pvs) (parts.toList.map fun p=>Arg.of p.2)=some es) (hel:∀e'∈es,e'.length=i.size):
  Does P B (s.setR d (e,i.size,es.length)) (.own d i.size es) a w o:=by
 obtain⟨res,hrun,hlen,hres,hflat⟩:=bsl_core h ho hu hi hz h1 hes hel;obtain⟨_,hsmall,_,hpos⟩:=h1;have hW:0<i.size:=Nat.pos_of_ne_zero (fun h0=>by rw[h0]at hpos;simp at hpos);have hl0:0<es.length:=Nat.pos_of_ne_zero (fun h0=>by rw[hlen]at h0;rw[h0]at hpos;simp at hpos);have hmax:es.length≤maxLen:=by
  have:es.length≤es.length*i.size:=Nat.le_mul_of_pos_right _ hW;unfold maxLen;rw[hlen]at this ⊢;omega
 obtain⟨E1,hβ,hK,hg,hS,hm⟩:=h.adopt hno hf e i.size;let E':Env:={ K:=fun k o=>E1.K k o∨(k=w.heap.size∧o<es.length*i.size),β:=E1.β,ι:=E1.ι,γ:=fun j=>if j=d then some (w.heap.size,es.length)else E1.γ j }
 have hb:Below w.heap.size w (w.alloc (.cells res e)):=(Below.refl _ _).alloc (Nat.le_refl _) _;have hk:∀k o u,E1.K k o→w.cell? ⟨k,o,none⟩=some u→E'.K k o∧(w.alloc (.cells res e)).cell? ⟨k,o,none⟩=some u:=fun k o u hk1 hk2=>⟨.inl hk1,(hb.cell (p:=⟨k,o,none⟩) (z72 hk2)).trans hk2⟩
 have hnew:(w.alloc (.cells res e)).heap[w.heap.size]?=some (.cells res e (0,0)):=heap_alloc_new w _;have hS':=hS.rowUp (d:=d) (e:=e) (W:=i.size) (n:=0) (n':=es.length) (E':=E') (w':=w.alloc (.cells res e)) (b:=w.heap.size) (cap:=es.length) (by simp[FS.setR,setF]) hl0 hk rfl rfl (fun d' hd'=>by simp[E',hd']) (fun k hk' _=>hb.block k hk') (by simp[E']) (.inl h.mem.low.size)
  ⟨⟨res,hnew,by rw[hlen];exact hres⟩,Nat.le_refl _,hmax,fun o ho=>by
   rcases ho with ho|⟨_,ho⟩
   ·have:=hS.mem.lt _ _ ho;omega
   ·exact ho⟩ (.inr (Nat.le_refl _)) (fun k o ho=>by
   rcases ho with ho|⟨ho,_⟩
   ·exact .inl ho
   ·exact .inr ho) hb.os hb.tape hb.output hb.size
 have hset:(s.setR d (e,i.size,0)).setR d (e,i.size,es.length)=s.setR d (e,i.size,es.length):=by
  unfold FS.setR;simp only[FS.mk.injEq,true_and,and_true];funext j;by_cases hj:j=d<;>simp[setF,hj]
 rw[hset]at hS';refine⟨_,_,w.alloc (.cells res e),E',hrun,.inl rfl,hS',?_⟩;rw[←hlen];refine .own d i.size es _ (.sl i.size es w.heap.size 0 es.length _ (fun k j=>(res[k*i.size+j]?).getD undef) (fun _=>rfl) (Nat.le_refl _) hmax hel (fun k j ps c hk1 hk2=> ?_) (fun k j ps c hk1 hk2=> ?_)) (fun e' W' n hn=> ?_)
 ·obtain⟨u,hu1,hu2,hu3⟩:=hflat k j ps c hk1 hk2;have hkl:k<es.length:=(gJ hk1).1;have hjl:j<i.size:=by rw[←hel ps (gM hk1)];exact(gJ hk2).1
  refine⟨.inr ⟨rfl,by rw[Nat.zero_add];exact idx_lt hkl hjl⟩,?_,by simpa [hu1]using hu3⟩;rw[Nat.zero_add,World.cell?_alloc_new,hu1];rfl
 ·obtain⟨u,hu1,hu2,hu3⟩:=hflat k j ps c hk1 hk2;rw[hu1];exact hu2.mono (fun b o u q1 q2=>hk b o u (by rw[hK];exact q1) q2)
 ·simp only[FS.setR,setF_self,Option.some.injEq,Prod.mk.injEq]at hn;obtain⟨rfl,rfl,rfl⟩:=hn;exact⟨Nat.le_refl _,fun _=>⟨rfl,by simp[E',hdr]⟩⟩
theorem does_app(h:Sim B s a w E){o:Oper}{x y:Operand}{t tx e:TypeId}(ho:o.op=.call { callee:=.builtin .append,args:= #[x,y],argTypes:= #[t,tx] }){i:TypeInfo}{zv:Value}(hu:P.underlying t=some (.slice e))(hi:P.info? e=some i)(hz:i.zero=some zv)
  (hzl:zv.cells.size=i.size) (hpos:0<i.size) {d:Nat} {es es2:List (List PV)} {v:Value} (hv:a.eval x=v) (hr:s.r d=some (e,i.size,es.length)) (hrel:RelT w E s.r (.own d i.size es) v)
  (hsrc:∃(news:List Value) (f:Nat→Nat→Value),News w E.K i.size es2 news f∧Src P i.size tx (a.eval y) es2.length news w) (hfit:(es.length+es2.length)*i.bytes≤140737488355328) (h63:es.length+es2.length≤maxLen):
  Does P B (s.setR d (e,i.size,es.length+es2.length)) (.own d i.size (es++es2)) a w o:=by
 obtain⟨news,f,hn,hsrc⟩:=hsrc;obtain⟨v',w',E',h1,_,_,h2,h3⟩:=h.app (P:=P) (ty:=o.type) hr hrel hpos hu hi hz hzl rfl hn hsrc hfit h63;refine⟨.value v',v',w',E',?_,.inl rfl,h2,h3⟩;simp[execOp,ho,resolve,invoke,builtin,hv,h1,Result.andThen]
theorem does_appN(h:Sim B s a w E){o:Oper}{x y:Operand}{t tx e:TypeId}(ho:o.op=.call { callee:=.builtin .append,args:= #[x,y],argTypes:= #[t,tx] }){i:TypeInfo}{zv:Value}(hu:P.underlying t=some (.slice e))(hi:P.info? e=some i)(hz:i.zero=some zv)
  (hzl:zv.cells.size=i.size) (hpos:0<i.size) {d:Nat} (hno:¬B.old d) (hf:Fresh s d) {es2:List (List PV)} (hv:a.eval x=.slice none 0 0)
  (hsrc:∃(news:List Value) (f:Nat→Nat→Value),News w E.K i.size es2 news f∧Src P i.size tx (a.eval y) es2.length news w) (hfit:es2.length*i.bytes≤140737488355328) (h63:es2.length≤maxLen):
  Does P B (s.setR d (e,i.size,es2.length)) (.own d i.size es2) a w o:=by
 obtain⟨E',hβ,hK,hg,hS,hm⟩:=h.adopt hno hf e i.size;have hr:(s.setR d (e,i.size,0)).r d=some (e,i.size,([]:List (List PV)).length):=by simp[FS.setR,setF]
 have hrel:RelT w E' (s.setR d (e,i.size,0)).r (.own d i.size []) (.slice none 0 0):=by
  refine .own d i.size [] _ (.sl i.size [] 0 0 0 none (fun _ _=>undef) (by simp) (by simp) (Nat.zero_le _) (by simp) (by simp) (by simp)) (fun e' W' n hn=> ?_);rw[hr]at hn;cases hn;exact⟨Nat.le_refl _,fun _=>⟨rfl,by rw[hg];rfl⟩⟩
 have:=does_app (P:=P) hS ho hu hi hz hzl hpos hv hr hrel (es2:=es2) (by rw[hK];exact hsrc) (by simpa using hfit) (by simpa using h63);have hset:(s.setR d (e,i.size,0)).setR d (e,i.size,([]:List (List PV)).length+es2.length)=s.setR d (e,i.size,es2.length):=by
  unfold FS.setR;simp only[List.length_nil,Nat.zero_add,FS.mk.injEq,true_and,and_true]
  grind [setF]
 grind
theorem flat_len{W:Nat}:∀{es:List (List PV)},(∀cs∈es,cs.length=W)→es.flatten.length=es.length*W
 |[],_=>by simp
 |cs::es,h=>by
  rw[List.flatten_cons,List.length_append,flat_len (es:=es) (fun x hx=>h x (List.mem_cons_of_mem _ hx)),h cs (List.mem_cons_self ..),List.length_cons,Nat.add_mul];omega
theorem flat_at{W:Nat}:∀{es:List (List PV)},(∀cs∈es,cs.length=W)→∀{j:Nat} {p:PV},es.flatten[j]?=some p→∃k q cs,es[k]?=some cs∧cs[q]?=some p∧j=k*W+q
 |[],_,j,p,hp=>by simp at hp
 |cs::es,h,j,p,hp=>by
  have hW:=h cs (List.mem_cons_self ..);rw[List.flatten_cons]at hp;rcases Nat.lt_or_ge j cs.length with hj|hj
  ·rw[List.getElem?_append_left hj]at hp;exact⟨0,j,cs,rfl,hp,by omega⟩
  ·rw[List.getElem?_append_right hj]at hp;obtain⟨k,q,ds,h1,h2,h3⟩:=flat_at (es:=es) (fun x hx=>h x (List.mem_cons_of_mem _ hx)) hp;exact⟨k+1,q,ds,by simpa using h1,h2,by rw[Nat.add_mul];omega⟩
theorem does_appB0(h:Sim B s a w E){o:Oper}{x y:Operand}{t tx e:TypeId}(ho:o.op=.call { callee:=.builtin .append,args:= #[x,y],argTypes:= #[t,tx] }){i:TypeInfo}(hu:P.underlying t=some (.slice e))(hi:P.info? e=some i)(hv:a.eval x=.slice none 0 0)
  (hsrc:∃(news:List Value) (f:Nat→Nat→Value),News w E.K i.size [] news f∧Src P i.size tx (a.eval y) ([]:List (List PV)).length news w):Does P B s (.pv (.v (.slice none 0 0))) a w o:=by
 obtain⟨news,f,hn,hsrc⟩:=hsrc;have hnl:=hsrc.newsLen;have hnews0:news=[]:=List.eq_nil_of_length_eq_zero (by simpa using hnl);subst hnews0;have:=run_append_nothing (P:=P) w t tx o.type e i hu hi none 0 0 (Nat.le_refl _) (a.eval y) hsrc;refine⟨.value (.slice none 0 0),_,w,E,?_,.inl rfl,h,.pv (.v _)⟩;simp[execOp,ho,resolve,invoke,builtin,hv,this,Result.andThen]
theorem does_appB(h:Sim B s a w E){o:Oper}{x y:Operand}{t tx e:TypeId}(ho:o.op=.call { callee:=.builtin .append,args:= #[x,y],argTypes:= #[t,tx] }){i:TypeInfo}{zv:Value}(hu:P.underlying t=some (.slice e))(hi:P.info? e=some i)(hz:i.zero=some zv)
  (hzl:zv.cells.size=i.size) (hpos:0<i.size) {d:Nat} (hno:¬B.old d) (hf:Fresh s d) {es2:List (List PV)} (hv:a.eval x=.slice none 0 0)
  (hsrc:∃(news:List Value) (f:Nat→Nat→Value),News w E.K i.size es2 news f∧Src P i.size tx (a.eval y) es2.length news w) (hne:es2≠[]) (hfit:es2.length*i.bytes≤140737488355328) (h63:es2.length≤maxLen):
  Does P B (s.setB d (es2.flatten.map .pv)) (.bs d 0 es2.length es2.length) a w o:=by
 obtain⟨news,f,hn,hsrc⟩:=hsrc;have hnl:=hsrc.newsLen;have hpos2:0<es2.length:=List.length_pos_iff.2 hne;let cap':=grownCap w (0+es2.length) 0 e
 have hcap1:es2.length≤cap':=by have:=grownCap_ge w (0+es2.length) 0 e;simpa [cap']using this
 have hcap2:cap'≤maxLen:=grownCap_le_maxLen w _ 0 e (by simpa using h63);have hrun:=run_append_grow_src (P:=P) w t tx o.type e i zv hu hi hz none 0 0 [] (run_firstCells_none _ _ _ _ _) (a.eval y) es2.length news hsrc (by omega) (by have:=h63;unfold maxLen at this;simp at this ⊢;omega) (growslice_fits (by omega) (by simpa using hfit));have hS:=h.same (w':=w.drew) ((Below.refl _ _).drew);have hrel:∀(j:Nat) c v,(es2.flatten.map TV.pv)[j]?=some c→(news++(Builtin.zeroCells zv.cells (cap'-(0+es2.length))).toList)[j]?=some v→one v∧RelT w.drew E s.r c v:=by
  intro j c v hc hv';rw[List.getElem?_map]at hc;obtain⟨p,hp,rfl⟩:=gO hc;obtain⟨k,q,cs,hk,hq,rfl⟩:=flat_at hn.len hp;obtain⟨n1,n2,n3⟩:=hn.at_ k q cs p hk hq;rw[List.getElem?_append_left (gJ n1).1,n1]at hv';cases hv';exact⟨n2,.pv (n3.mono fun _ _ _ h1 h2=>⟨h1,h2⟩)⟩
 obtain⟨E',hE,hS'⟩:=hS.newBp hno hf e (es2.flatten.map TV.pv) (news++(Builtin.zeroCells zv.cells (cap'-(0+es2.length))).toList) (by rw[List.length_map,flat_len hn.len,List.length_append,hnl];omega) (fun j c v h1 h2=>(hrel j c v h1 h2).2) (fun j c v h1 h2=>(hrel j c v h1 h2).1) (fun c hc hm=>by
  obtain⟨p,_,rfl⟩:=List.mem_map.1 hc;cases hm)
 have harr:(news++(Builtin.zeroCells zv.cells (cap'-(0+es2.length))).toList).toArray=(([]:List Value)++news).toArray++Builtin.zeroCells zv.cells (cap'-(0+es2.length)):=by simp
 rw[harr]at hS';refine⟨.value (.slice (some ⟨w.heap.size,0,none⟩) (0+es2.length) cap'),_,_,E',?_,.inl rfl,hS',?_⟩
 ·simp[execOp,ho,resolve,invoke,builtin,hv,hrun,Result.andThen,cap']
 ·rw[Nat.zero_add,show w.heap.size=E'.β d from hE.symm];exact .bs d 0 _ _ _ (Nat.le_refl _) hcap1 hcap2
end
end
theorem findKs_none{kd:TypeDesc}{k:Value}:∀(es:List MapEntry) (i:Nat),findKs kd k (es.map MapEntry.key) i=some none→Instr.findNow kd k es i=some none
 |[],i,_=>rfl
 |e::es,i,h=>by
  simp only[List.map_cons,findKs]at h;simp only[Instr.findNow];cases hs:Instr.sameNow kd k e.key with
  |none=>grind
  |some b=>
   rw[hs]at h;cases b with
   |true=>cases h
   |false=>exact findKs_none es (i+1) h
theorem findKs_some{kd:TypeDesc}{k:Value}:∀(es:List MapEntry) (i j:Nat),findKs kd k (es.map MapEntry.key) i=some (some j)→i≤j∧∃e,es[j-i]?=some e∧Instr.findNow kd k es i=some (some (j,e.val))
 |[],i,j,h=>by cases h
 |e::es,i,j,h=>by
  simp only[List.map_cons,findKs]at h;simp only[Instr.findNow];cases hs:Instr.sameNow kd k e.key with
  |none=>grind
  |some b=>
   rw[hs]at h;cases b with
   |true=>simp_all
   |false=>
    obtain⟨h1,e',h2,h3⟩:=findKs_some es (i+1) j h
    grind
theorem checkKey_kd'{P:Program}{w:World}{t:TypeId}(text b:Bool)(n:Nat)(v:Value)(h:P.underlying t=some (kdOf text)):(Instr.checkKey b (n+1) t v).run P w=.ok () w:=by
 rw[Instr.checkKey,Sem.run_bind,run_underlying h];cases text<;>simp[kdOf,Result.andThen]
theorem checkKey_kd{P:Program}{w:World}{t:TypeId}(text b:Bool)(v:Value)(h:P.underlying t=some (kdOf text)):(Instr.checkKey b 10000 t v).run P w=.ok () w:=checkKey_kd' text b 9999 v h
theorem run_lkp{P:Program}{w:World}{t kt et:TypeId}{text:Bool}{b clock:Nat}{es:Array MapEntry}{k z:Value}(ht:P.underlying t=some (.map kt et))(hk:P.underlying kt=some (kdOf text))(hz:(zeroValue et).run P w=.ok z w)(hb:w.heap[b]?=some (.map es clock))
  {r:Option Nat} (hr:findKs (kdOf text) k (es.toList.map MapEntry.key) 0=some r):
  (Instr.lookup t (.map (some b)) k false).run P w=.ok (match r with|some j=>((es.toList[j]?).map MapEntry.val).getD z|none=>z) w:=by
 have hget:=Go.MapKept.run_getObj_map (P:=P) hb;cases r with
 |none=>
  have h1:=findKs_none _ _ hr;simp[Instr.lookup,run_underlying ht,hget,checkKey_kd text _ _ hk,Instr.findKey,run_underlying hk,h1,hz,Result.andThen]
 |some j=>
  obtain⟨_,e,h2,h3⟩:=findKs_some _ _ _ hr;rw[Nat.sub_zero]at h2;simp[Instr.lookup,run_underlying ht,hget,checkKey_kd text _ _ hk,Instr.findKey,run_underlying hk,h3,Result.andThen]
  grind
section
section
variable{B:Base}{s:FS}{a:Act}{w w':World}{E E':Env}{r:Rows}{P:Program}{C:Oracle}{g:Glob}
theorem eqGuard_const(op:BinOp)(t:TypeId)(x y:Operand)(vx vy:Value)(h:¬(vx=.nilIface∧vy=.nilIface)):eqGuard op t x y vx vy=eqGuard op t (.const vx) (.const vy) vx vy:=by
 unfold eqGuard
 grind
theorem z71{o:Oper}{s':FS}{x:TV}(hd:Does P B s' x a w o)(hdst:∀k,o.dst=some k→k<B.N){next:Act→World→Prop}{Q:Exit→Act→World→Prop}
  (hn:∀v w' E',Sim B (s'.put o.dst x) (a.put o.dst v) w' E'→next (a.put o.dst v) w'):o.wp P a w next Q:=by
 obtain⟨nx,v,w',E',h1,h2,h3,h4⟩:=hd;unfold Oper.wp;rw[h1];rcases h2 with rfl|⟨rfl,rfl⟩
 ·exact hn v w' E' (h3.put hdst h4)
 ·exact hn undef w' E' (h3.put hdst h4)
theorem z156(h:Sim B s a w E){x:Option Operand}{dflt n:Nat}(hx:bound s dflt (x.map Arg.of)=some n):(x=none∧n=dflt)∨∃y k,x=some y∧a.eval y=.int k n:=by
 cases x with
 |none=>grind [bound]
 |some x=>
  obtain⟨i,h1,h2⟩:=gB hx;obtain⟨t,h3,h4⟩:=gB h1;split at h2
  ·rename_i h0;obtain⟨k,hk⟩:=int_rel (z17 h h3) h4
   grind
  ·cases h2
theorem run_slice_any{t e:TypeId}{i:TypeInfo}(hu:P.underlying t=some (.slice e))(hi:P.info? e=some i)(p:Option Addr)(len cap:Nat)(lo hi':Option Value)(l h:Nat)(hl:(lo=none∧l=0)∨∃k,lo=some (.int k l))(hh:(hi'=none∧h=len)∨∃k,hi'=some (.int k h))(h1:l≤h)(h2:h≤len)(h3:len≤cap):
  (Instr.sliceAt t (.slice p len cap) lo hi' none).run P w=.ok (.slice (if cap=l then p else p.map (·.add (l*i.size))) (h-l) (cap-l)) w:=by
 have hb:(Instr.sliceBounds true len cap lo hi' none).run P w=.ok (l,h,cap) w:=by
  rcases hl with⟨rfl,rfl⟩|⟨k,rfl⟩<;>rcases hh with⟨rfl,rfl⟩|⟨k',rfl⟩
  ·simp[Instr.sliceBounds]
  ·simp[Instr.sliceBounds,Instr.sliceBound,asIntOf,Result.andThen]
   grind
  ·simp[Instr.sliceBounds,Instr.sliceBound,asIntOf,Result.andThen]
   grind
  ·simp[Instr.sliceBounds,Instr.sliceBound,asIntOf,Result.andThen]
   grind
 simp[Instr.sliceAt,Instr.slice,run_underlying hu,hb,z101 hi,Result.andThen]
theorem ids0_ment{t:TV}{d:Nat}(h:d∈t.ids0):Ment d t:=by
 cases t<;>simp only[TV.ids0,List.mem_singleton,List.not_mem_nil]at h
 ·subst h;exact .ptr _
 ·subst h;exact .own _ _
 ·subst h;exact .bs _ _ _
theorem idsF_ment{t:TV}{d:Nat}(h:d∈t.idsF):Ment d t:=by
 cases t with
 |fn f x y=>
  simp only[TV.idsF,List.mem_append,List.mem_flatMap]at h;rcases h with⟨c,h1,h2⟩|⟨c,h1,h2⟩
  ·exact .fn1 h1 (ids0_ment h2)
  ·exact .fn2 h1 (ids0_ment h2)
 |_=>exact ids0_ment h
theorem idsE_ment{t:TV}{d:Nat}(h:d∈t.idsE):Ment d t:=by
 cases t with
 |agg cs=>
  simp only[TV.idsE,List.mem_flatMap]at h;obtain⟨c,h1,h2⟩:=h;exact .agg h1 (idsF_ment h2)
 |_=>exact idsF_ment h
theorem ids1_ment{t:TV}{d:Nat}(h:d∈t.ids1):Ment d t:=by
 cases t with
 |mp ks xs=>
  simp only[TV.ids1,List.mem_flatMap]at h;obtain⟨c,h1,h2⟩:=h;exact .mp h1 (idsE_ment h2)
 |_=>exact idsF_ment h
theorem ids2_ment{t:TV}{d:Nat}(h:d∈t.ids2):Ment d t:=by
 cases t with
 |agg cs=>
  simp only[TV.ids2,List.mem_flatMap]at h;obtain⟨c,h1,h2⟩:=h;exact .agg h1 (ids1_ment h2)
 |_=>exact ids1_ment h
theorem z116{rows:Bool}:∀(n:Nat) (l seen:List Nat),seen.Nodup→(∀d∈seen,s.ment d)→(∀d∈l,s.ment d)→(reach s rows n l seen).Nodup∧∀d∈reach s rows n l seen,s.ment d
 |0,l,seen,h1,h2,_=>by simp only[reach];exact⟨h1,h2⟩
 |n+1,[],seen,h1,h2,_=>by simp only[reach];exact⟨h1,h2⟩
 |n+1,d::l,seen,h1,h2,h3=>by
  have hl:∀d∈l,s.ment d:=fun x hx=>h3 x (List.mem_cons_of_mem _ hx);have hd:=h3 d (List.mem_cons_self ..);simp only[reach];cases hp:pos seen d with
  |some j=>exact z116 n l seen h1 h2 hl
  |none=>
   have hnot:=pos_none hp;have hnd:(seen++[d]).Nodup:=List.nodup_append.2 ⟨h1,by simp,by
    intro x hx y hy;simp at hy;subst hy;rintro rfl;exact hnot hx⟩
   have hms:∀x∈seen++[d],s.ment x:=by
    intro x hx;rcases List.mem_append.1 hx with hx|hx
    ·exact h2 x hx
    ·simp at hx;subst hx;exact hd
   cases hb:s.b d with
   |some cs=>
    refine z116 n _ _ hnd hms (fun x hx=> ?_);rcases List.mem_append.1 hx with hx|hx
    ·obtain⟨c,hc,hx⟩:=List.mem_flatMap.1 hx;exact .inr ⟨d,cs,c,hb,hc,ids1_ment hx⟩
    ·exact hl x hx
   |none=>
    cases hr:s.r d with
    |none=>exact z116 n l seen h1 h2 hl
    |some q=>
     cases rows with
     |true=>exact z116 n l _ hnd hms hl
     |false=>exact z116 n l seen h1 h2 hl
def handI(s:FS)(mode:Nat)(xs:List TV):List Nat:=if Nat.beq mode 0 then [] else reach s (Nat.beq mode 2) 64 (xs.flatMap TV.ids2) []
theorem handI_spec(mode:Nat){xs:List TV}(h:∀x∈xs,∀d,Ment d x→s.ment d):(handI s mode xs).Nodup∧∀d∈handI s mode xs,s.ment d:=by
 unfold handI;split
 ·simp
 ·refine z116 _ _ _ (by simp) (by simp) (fun d hd=> ?_);obtain⟨x,hx,hd⟩:=List.mem_flatMap.1 hd;exact h x hx d (ids2_ment hd)
theorem callEff_inv{k f mode:Nat}{xs:List TV}{x:TV}{u:Upd}(h:z107 C s k f mode xs=some (x,u)):∃xs' os y os' us,seqO (TV.ren2 (rhoIn (handI s mode xs))) xs=some xs'∧seqO (fun d=>(s.mo d).bind (MO.ren (rhoIn (handI s mode xs)))) (handI s mode xs)=some os∧
  C f xs' os=some (y,os')∧moOk os os'=true∧y.ren3 (rhoOut (handI s mode xs) k)=some x∧outs (rhoOut (handI s mode xs) k) 0 os'=some us∧u=.mem us:=by
 unfold z107 at h;simp only[]at h;split at h
 ·rename_i xs' os h1 h2;split at h
  ·rename_i y os' h3;split at h
   ·rename_i h4;split at h
    ·rename_i y' us h5 h6;cases h;exact⟨xs',os,y,os',us,h1,h2,h3,h4,h5,h6,rfl⟩
    ·cases h
   ·cases h
  ·cases h
 ·cases h
theorem wp_callAt(h:Sim B s a w E)(hG:g.G B.w0)(hX:∀d b,B.X d b→g.n≤b){o:Oper}{f mode:Nat}{xs:List TV}{vs:List Value}(hmx:∀x∈xs,∀d,Ment d x→s.ment d)(hl:xs.length=vs.length)(hxs:∀(j:Nat) x v,xs[j]?=some x→vs[j]?=some v→RelT w E s.r x v)
  (hop:hasBody P f→(execOp a.eval o).run P w=.ok (.enter f vs.toArray) w) (hdst:∀k,o.dst=some k→k<B.N) (hC:∀f xs os y os',C f xs os=some (y,os')→SCalls P g f xs os y os') (hm0:B.m≤1000) (hf:∀q<4,Fresh s (newId (dstId o.dst) q))
  {x:TV} {u:Upd} (he:z107 C s (dstId o.dst) f mode xs=some (x,u)) {next:Act→World→Prop} {Q:Exit→Act→World→Prop}
  (hn:∀v w' E',Sim B ((s.upd o.dst u).put o.dst x) (a.put o.dst v) w' E'→next (a.put o.dst v) w'):o.wp P a w next Q:=by
 obtain⟨xs',os,y,os',us,h1,h2,h3,h4,h5,h6,rfl⟩:=callEff_inv he;obtain⟨hI,hIm⟩:=handI_spec mode hmx;obtain⟨hbody,hcall⟩:=hC f xs' os y os' h3;have hn0:=g.le _ hG;have hGw:g.G w:=g.st _ _ hG (fun k hk=>h.mem.low.block k (by omega) (fun d hd=>by have:=hX d k hd;omega));have hrho:RenOk E s.r (rhoIn (handI s mode xs)) (envIn E (handI s mode xs)) (objR os):=renIn h2;obtain⟨l1,q1⟩:=seqR (w:=w) (fun _ _ _=>ren2_rel hrho (fun _ _ _ h _=>h)) hl hxs h1;have hblk:∀d b,objX (envIn E (handI s mode xs)) os d b→g.n≤b:=by
  intro d b hx;obtain⟨hlen,hB,hR⟩:=handed h2;rcases hx with⟨cs,e1,e2⟩|⟨⟨e,W,n⟩,cap,e1,e2⟩
  ·obtain⟨j,rfl,hj⟩:=z49 e1;obtain⟨i,c,b1,b2,_⟩:=hB j cs hj;have e3:E.β i=b:=by rw[←e2];simp only[envIn];rw[getD_of b1]
   rcases(h.mem.box i c b2).2 with e4|e4<;>grind
  ·obtain⟨j,rfl,hj⟩:=z30 e1;obtain⟨i,b1,b2,b3⟩:=hR j e W n hj;have e3:E.γ i=some (b,cap):=by rw[←e2];simp only[envIn];rw[getD_of b1]
   rcases h.mem.row i e W n b3 with⟨e4,_⟩|⟨b',c',e4,e5,_⟩<;>grind
 have hcalls:=hcall w (envIn E (handI s mode xs)) vs hGw (z114 h hI h2) hblk l1 q1;unfold Oper.wp;rw[hop hbody];refine hcalls.mono ?_;rintro e w' ⟨v,E',rfl,hm,hv,hleft⟩;obtain⟨hS,hren⟩:=z174 h hI hIm hm0 hf h2 h4 h6 hm hleft o.dst;exact hn v w' _ (hS.put hdst (z153 hren (fun _ _ _ h _=>h) hv h5))
theorem get_list(h:Sim B s a w E){xs:List Operand}{ts:List TV}(hx:seqO (fun x:Arg=>x.get s) (xs.map Arg.of)=some ts):ts.length=(xs.map a.eval).length∧(∀(j:Nat) x v,ts[j]?=some x→(xs.map a.eval)[j]?=some v→RelT w E s.r x v)∧∀x∈ts,∀d,Ment d x→s.ment d:=by
 obtain⟨l1,h1⟩:=z42 hx;have key:∀(j:Nat) x,ts[j]?=some x→∃y,xs[j]?=some y∧(Arg.of y).get s=some x:=by
  intro j x hj;have hjl:j<xs.length:=by grind
  obtain⟨y,hy1,hy2⟩:=h1 j (Arg.of xs[j]) (by rw[List.getElem?_map,gE hjl];rfl)
  grind
 grind [z17,List.getElem?_of_mem,z29]
theorem run_ssub{t:TypeId}(hu:P.underlying t=some .string)(z:ByteArray)(lo hi':Option Value)(l h:Nat)(hl:(lo=none∧l=0)∨∃k,lo=some (.int k l))(hh:(hi'=none∧h=z.size)∨∃k,hi'=some (.int k h))(h1:l≤h)(h2:h≤z.size):
  (Instr.sliceAt t (.string z) lo hi' none).run P w=.ok (.string (z.extract l h)) w:=by
 have hb:(Instr.sliceBounds false z.size z.size lo hi' none).run P w=.ok (l,h,z.size) w:=by
  rcases hl with⟨rfl,rfl⟩|⟨k,rfl⟩<;>rcases hh with⟨rfl,rfl⟩|⟨k',rfl⟩
  ·simp[Instr.sliceBounds]
  ·simp[Instr.sliceBounds,Instr.sliceBound,asIntOf,Result.andThen]
   grind
  ·simp[Instr.sliceBounds,Instr.sliceBound,asIntOf,Result.andThen]
   grind
  ·simp[Instr.sliceBounds,Instr.sliceBound,asIntOf,Result.andThen]
   grind
 simp[Instr.sliceAt,Instr.slice,run_underlying hu,hb,Result.andThen]
theorem run_b2s{es:List (List PV)}{v:Value}{l:zB}(h:RelV w E.K (.sl 1 es) v)(hl:seqO byteOf es=some l):(Conv.bytesToString v).run P w=.ok (.string ⟨l.toArray⟩) w:=by
 obtain⟨b,off,cap,p,f,rfl,hp,hcap,hmax,hW,hc⟩:=z50 h;let num:List PV→Int:=fun e=>match e with|[.v (.int .u8 n)]=>n|_=>0
 have hes:∀(e:List PV) u,byteOf e=some u→e=[.v (.int .u8 (num e))]∧u=UInt8.ofNat (num e).toNat:=by
  intro e u he;unfold byteOf at he;split at he
  ·cases he;exact⟨rfl,rfl⟩
  ·cases he
 have hfold:∀(es:List (List PV)) (l:zB) (acc:ByteArray),seqO byteOf es=some l→(es.map num).foldl (fun r n=>r.push (UInt8.ofNat n.toNat)) acc=⟨acc.data++l.toArray⟩:=by
  intro es
  induction es with
  |nil=>intro l acc hl;simp[seqO]at hl;subst hl;simp
  |cons e r ih=>
   intro l acc hl;obtain⟨y,zs,h1,h2,rfl⟩:=seqO_cons hl;simp;rw[ih zs _ h2,←(hes e y h1).2];cases acc;simp[ByteArray.push]
 cases p with
 |none=>
  have:es=[]:=by
   apply Classical.byContradiction;intro hne;have:=hp hne;cases this
  subst this;simp[seqO]at hl;subst hl;simp[Conv.bytesToString];rfl
 |some ad=>
  have hload:(loadCells ad es.length).run P w=.ok ((es.map num).map (Value.int .u8)).toArray w:=by
   have:=run_loadCells_list (P:=P) (w:=w) ad ((es.map num).map (Value.int .u8)) (fun j v hv=>by
    simp only[List.getElem?_map,Option.map_map]at hv;obtain⟨e,he,rfl⟩:=gO hv;obtain⟨l1,h1⟩:=z42 hl;obtain⟨u,_,hu⟩:=h1 j e he;obtain⟨e1,_⟩:=hes e u hu;have hpe:=hp (by rintro rfl;simp at he);have had:ad=⟨b,off,none⟩:=Option.some.inj hpe;subst had;obtain⟨⟨_,h2,_⟩,h3⟩:=hc j 0 e (.v (.int .u8 (num e))) he (by rw[e1];rfl);rw[Addr.add_mid];have hv:f j 0=.int .u8 (num e):=by
     generalize f j 0=q at h3;cases h3;rfl
    rw[hv]at h2;simpa using h2)
   simpa using this
  rw[run_bytesToString w ad es.length cap _ hload,hfold es l _ hl];simp
theorem relApp{xs ys:List TV}{us vs:List Value}(h1:xs.length=us.length)(h2:ys.length=vs.length)(r1:∀(j:Nat) c v,xs[j]?=some c→us[j]?=some v→RelT w E r c v)(r2:∀(j:Nat) c v,ys[j]?=some c→vs[j]?=some v→RelT w E r c v):
  ∀(j:Nat) c v,(xs++ys)[j]?=some c→(us++vs)[j]?=some v→RelT w E r c v:=by
 grind
theorem callee_rel{t:TV}{v:Value}{f:Nat}{fa fb:List TV}(h:RelT w E r t v)(ht:t.callee=some (f,fa,fb)):∃us cs:List Value,v=.func (.func f) us.toArray cs.toArray∧fa.length=us.length∧fb.length=cs.length∧
  (∀(j:Nat) c v,fa[j]?=some c→us[j]?=some v→RelT w E r c v)∧(∀(j:Nat) c v,fb[j]?=some c→cs[j]?=some v→RelT w E r c v)∧∀x,(x∈fa∨x∈fb)→∀d,Ment d x→Ment d t:=by
 unfold TV.callee at ht;split at ht
 ·cases ht;cases h with
  |fn g xs ys us vs h1 h2 r1 r2=>
  exact⟨us,vs,rfl,h1,h2,r1,r2,fun x hx d hd=>hx.elim (fun hx=> .fn1 hx hd) (fun hx=> .fn2 hx hd)⟩
 ·cases ht;cases h with
  |pv h=>
  cases h with
  |fn g xs ys us vs h1 h2 r1 r2=>
  refine⟨us,vs,rfl,by simpa using h1,by simpa using h2,fun j c v hc hv=> ?_,fun j c v hc hv=> ?_,fun x hx d hd=> ?_⟩
  ·rw[List.getElem?_map]at hc;obtain⟨p,hp,rfl⟩:=gO hc;exact .pv (r1 j p v hp hv)
  ·rw[List.getElem?_map]at hc;obtain⟨p,hp,rfl⟩:=gO hc;exact .pv (r2 j p v hp hv)
  ·rcases hx with hx|hx
   ·obtain⟨p,_,rfl⟩:=List.mem_map.1 hx;cases hd
   ·obtain⟨p,_,rfl⟩:=List.mem_map.1 hx;cases hd
 ·cases ht;cases h with
  |pv h=>
  cases h<;>grind
 ·cases ht
theorem made_list(z:Array Value)(hz:0<z.size):∀n,(madeCells z (n*z.size)).toList=(List.replicate n z.toList).flatten
 |0=>by simp[madeCells]
 |n+1=>by
  have ih:=made_list z hz n;simp only[madeCells,Array.toList_map,Array.toList_range]at ih ⊢;rw[Nat.add_mul,Nat.one_mul,List.range_add,List.map_append,ih,List.replicate_succ',List.flatten_append];congr 1;apply List.ext_getElem?;intro j;rcases Nat.lt_or_ge j z.size with hj|hj
  ·have e:(n*z.size+j)%z.size=j:=by rw[Nat.mul_comm,Nat.mul_add_mod,Nat.mod_eq_of_lt hj]
   simp[hj,e]
  ·rw[List.getElem?_eq_none (by simpa using hj),List.getElem?_eq_none (by simpa using hj)]
theorem does_mks(h:Sim B s a w E){o:Oper}{t e:TypeId}{la:Nat}(hop:o.op=.makeSlice t (.tmp la) (.tmp la))(hu:P.underlying t=some (.slice e)){i:TypeInfo}{zv:Value}(hi:P.info? e=some i)(hz:i.zero=some zv)(hzl:zv.cells.size=i.size∧0<i.size∧zv.cells.toList.all (·.oneCell')=true)
  {d:Nat} (hd:o.dst=some d) (hno:¬B.old d) (hf:Fresh s d) {k:Int} (hk:(Arg.tmp la).get s=some (.pv (.v (.int .i64 k)))) (hle:0≤k∧(i.bytes:Int)*k≤140737488355328∧k≤maxLen):
  Does P B (s.upd o.dst (.box ((List.replicate k.toNat (zv.cells.toList.map fun v=>TV.pv (.v v))).flatten))) (.bs d 0 k.toNat k.toNat) a w o:=by
 have hv:=val_rel (y:=.int .i64 k) (z17 h (x:=.tmp la) hk) rfl;have h63:k≤9223372036854775807:=by have:=hle.2.2;simp only[maxLen]at this;omega
 have hrun:=run_make (P:=P) w t e i zv hu hi hz .i64 .i64 k k hle.1 (Int.le_refl _) (by have:=hle.2.1;omega) h63;have hmade:(madeCells zv.cells (k.toNat*i.size)).toList=(List.replicate k.toNat zv.cells.toList).flatten:=by grind [made_list]
 have hmap:(List.replicate k.toNat (zv.cells.toList.map fun v=>TV.pv (.v v))).flatten=((List.replicate k.toNat zv.cells.toList).flatten).map fun v=>TV.pv (.v v):=by simp
 have ho:∀v∈(List.replicate k.toNat zv.cells.toList).flatten,one v:=by
  grind [List.mem_flatten]
 have hrel:=RelL.ofVals (w:=w) (E:=E) (r:=s.r) ho;obtain⟨E',hE,hS⟩:=h.newB hno hf e _ _ hrel.len hrel.at_ ho (by
  intro c hc hmc;obtain⟨v,_,rfl⟩:=List.mem_map.1 hc;cases hmc)
 have harr:(List.replicate k.toNat zv.cells.toList).flatten.toArray=madeCells zv.cells (k.toNat*i.size):=by grind
 rw[harr]at hS;refine⟨.value (.slice (some ⟨w.heap.size,0,none⟩) k.toNat k.toNat),_,w.alloc (.cells (madeCells zv.cells (k.toNat*i.size)) e),E',?_,.inl rfl,by rw[hd,hmap];exact hS,?_⟩
 ·simp[execOp,hop,hv,hrun,Result.andThen]
 ·rw[←hE];exact .bs d 0 _ _ _ (Nat.le_refl _) (Nat.le_refl _) (by have:=hle.2.2;omega)
theorem run_fnil1{t:TypeId}{p q:Array TypeId}{r:Bool}(hu:P.underlying t=some (.func p q r)):(Op.equal t .nilFunc .nilFunc).run P w=.ok true w:=by
 show(Op.equalIn (Op.maxDepth-1+1) t .nilFunc .nilFunc).run P w=_;rw[Op.equalIn];simp[run_underlying hu,Result.andThen]
theorem run_fnil2{t:TypeId}{p q:Array TypeId}{r:Bool}(hu:P.underlying t=some (.func p q r)){f:Fn}{c d:Array Value}:(Op.equal t (.func f c d) .nilFunc).run P w=.ok false w:=by
 show(Op.equalIn (Op.maxDepth-1+1) t (.func f c d) .nilFunc).run P w=_;rw[Op.equalIn];simp[run_underlying hu,Result.andThen]
theorem sim_op(h:Sim B s a w E){o:Oper}{sop:SOp}{hint:Nat}(hm0:B.m≤1000)(hN:B.N≤1000)(hG:g.G B.w0)(hX:∀d b,B.X d b→g.n≤b)(ht:z24 P o hint=some sop)(hdst:∀k,o.dst=some k→k<B.N)(hf:∀d∈sop.news o.dst,Fresh s d)(hC:∀f xs os y os',C f xs os=some (y,os')→SCalls P g f xs os y os')
  {x:TV} {u:Upd} (he:eff P C o.dst sop s=some (x,u)) {next:Act→World→Prop} {Q:Exit→Act→World→Prop}
  (hn:∀v w' E',Sim B ((s.upd o.dst u).put o.dst x) (a.put o.dst v) w' E'→next (a.put o.dst v) w'):o.wp P a w next Q:=by
 have hno:∀d,o.dst=some d→¬B.old d:=fun d hd ho=>Nat.not_lt.2 (Nat.le_trans hN ho.1) (hdst d hd);have vD:∀{v:Value},u=.no→(execOp a.eval o).run P w=.ok (.value v) w→RelT w E s.r x v→o.wp P a w next Q:=by
  rintro v rfl hr hx;exact z71 (z183 h hr hx) hdst hn
 have nD:u=.no∧Does P B s x a w o→o.wp P a w next Q:=by
  rintro⟨rfl,hd⟩;exact z71 hd hdst hn
 cases hop:o.op with
 |move z=>
  simp only[z24,hop,Option.some.injEq]at ht;subst ht;obtain⟨v,h1,h2⟩:=gO he;cases h2;exact vD rfl (by simp[execOp,hop]) (z17 h h1)
 |assign z=>
  simp only[z24,hop,Option.some.injEq]at ht;subst ht;obtain⟨v,h1,h2⟩:=gO he;cases h2;exact vD rfl (by simp[execOp,hop]) (z17 h h1)
 |pick c y z=>
  simp only[z24,hop,Option.some.injEq]at ht;subst ht;simp only[eff]at he;split at he
  ·rename_i t hc;have hc':=val_rel (y:=.bool t) (z17 h hc) rfl;obtain⟨v,h1,h2⟩:=gO he;cases h2;cases t
   ·exact vD rfl (by simp[execOp,hop,hc',asBool]) (z17 h h1)
   ·exact vD rfl (by simp[execOp,hop,hc',asBool]) (z17 h h1)
  ·cases he
 |alloc t=>
  simp only[z24,hop]at ht;split at ht<;>try(cases ht;done)
  rename_i i hi;split at ht<;>try(cases ht;done)
  rename_i zv hz;split at ht<;>try(cases ht;done)
  rename_i h1;cases ht;exact z71 (does_new h hop hno (fun d hd=>hf d (by simp[SOp.news,hd])) hi hz h1 he) hdst hn
 |box t z=>
  simp only[z24,hop,Option.some.injEq]at ht;subst ht;exact z71 (does_box h hop hno (fun d hd=>hf d (by simp[SOp.news,hd])) he) hdst hn
 |build t parts=>
  simp only[z24,hop]at ht;split at ht<;>try(cases ht;done)
  ·rename_i i fs hi hu;split at ht<;>try(cases ht;done)
   rename_i zv hz;split at ht<;>try(cases ht;done)
   rename_i h1;obtain⟨ps,h2,rfl⟩:=gO ht;rw[Bool.and_eq_true]at h1;exact nD (does_build h hop hi hu hz h1.1 h2 (fun k f hk=>by
    have:=Array.all_eq_true.1 h1.2 k (gA hk).1;rw[(gA hk).2]at this;exact Option.isSome_iff_exists.1 this) he)
  ·rename_i i n e hi hu;split at ht<;>try(cases ht;done)
   rename_i zv j hz hj;split at ht<;>try(cases ht;done)
   rename_i h1;cases ht;exact nD (does_buildA h hop hi hu hz hj h1 he)
 |buildSlice t len parts=>
  simp only[z24,hop]at ht;split at ht<;>try(cases ht;done)
  rename_i e hu;split at ht<;>try(cases ht;done)
  rename_i i hi;split at ht<;>try(cases ht;done)
  rename_i zv hz;split at ht<;>try(cases ht;done)
  rename_i h1;cases hin:Nat.beq hint 1 with
  |false=>
   rw[hin]at ht;simp only[Bool.false_eq_true,if_false,Option.some.injEq]at ht;subst ht;exact nD (does_bsl h hop hu hi hz h1 he)
  |true=>
   rw[hin]at ht;simp only[if_true,Option.some.injEq]at ht;subst ht;simp only[eff]at he;split at he
   ·rename_i d es hd hes;split at he
    ·rename_i hall;cases he;have hel:∀e'∈es,e'.length=i.size:=fun e' he'=>by simpa using List.all_eq_true.1 hall e' he'
     have:=does_bslO (P:=P) h hop hu hi hz h1 (hno d hd) (hf d (by simp[SOp.news,hd])) hes hel;rw[hd]at hn hdst;refine z71 (s':=s.setR d (e,i.size,es.length)) this (by rw[hd];exact hdst) (by rw[hd];exact hn)
    ·cases he
   ·cases he
 |load t z=>
  simp only[z24,hop]at ht;split at ht<;>try(cases ht;done)
  rename_i d i hu hi;cases ht;exact nD (does_ld h hop hu hi he)
 |store t y z=>
  simp only[z24,hop]at ht;split at ht<;>try(cases ht;done)
  rename_i i hi;cases ht;exact z71 (does_st h hop hi he) hdst hn
 |nilCheck z=>
  simp only[z24,hop,Option.some.injEq]at ht;subst ht;simp only[eff]at he;split at he
  ·rename_i d off hz;cases he;have hx:=z17 h hz;generalize hv:a.eval z=v at hx;cases hx;exact vD rfl (by simp[execOp,hop,hv]) (.ptr d off)
  ·rename_i cs hz;cases he;have hx:=z17 h hz;generalize hv:a.eval z=v at hx;cases hx with
   |pv hx=>
   cases hx with
   |el _ b off f h1 h2=>exact vD rfl (by simp[execOp,hop,hv]) (.pv (.el cs b off f h1 h2))
  ·cases he
 |binOp op t y z t'=>
  simp only[z24,hop]at ht;have nilK:∀ne:Bool,eff P C o.dst (.fnil ne (.of y)) s=some (x,u)→z=.const .nilFunc→op=(if ne then .neq else .eql)→(∃p q r,P.underlying t=some (.func p q r))→o.wp P a w next Q:=by
   intro ne he hz hq hu;simp only[eff]at he;obtain⟨b,h1,h2⟩:=gO he;cases h2;obtain⟨ty,hy1,hy2⟩:=gB h1;have hx:=z17 h hy1;obtain⟨p,q,r,hu⟩:=hu;have hrun:(execOp a.eval o).run P w=.ok (.value (.bool (b !=ne))) w:=by
    generalize hv:a.eval y=v at hx;have hez:a.eval (.const .nilFunc)=.nilFunc:=rfl;have hv2:(b=true∧v=.nilFunc)∨(b=false∧∃f c d,v=.func f c d):=by
     cases hx with
     |fn g xs ys us vs _ _ _ _=>simp only[TV.fnil,Option.some.injEq]at hy2;exact .inr ⟨hy2.symm,_,_,_,rfl⟩
     |pv hx=>
      cases hx with
      |fn g xs ys us vs _ _ _ _=>simp only[TV.fnil,Option.some.injEq]at hy2;exact .inr ⟨hy2.symm,_,_,_,rfl⟩
      |v=>
       cases v<;>simp only[TV.fnil,Option.some.injEq,reduceCtorEq]at hy2
       ·exact .inr ⟨hy2.symm,_,_,_,rfl⟩
       ·exact .inl ⟨hy2.symm,rfl⟩
      |_=>simp[TV.fnil]at hy2
     |_=>simp[TV.fnil]at hy2
    rcases hv2 with⟨rfl,rfl⟩|⟨rfl,f,c,d,rfl⟩<;>cases ne<;>simp only[Bool.false_eq_true,if_false,if_true]at hq<;>subst hq<;>subst hz<;>
     simp only[execOp,hop,hv,hez,eqGuard,binOp,run_fnil1 hu,run_fnil2 hu,Sem.run_bind,Result.andThen]<;>rfl
   exact vD rfl hrun (.pv (.v _))
  split at ht
  ·rename_i hu;simp only[Option.some.injEq]at ht;subst ht;exact nilK false he rfl rfl ⟨_,_,_,hu⟩
  ·rename_i hu;simp only[Option.some.injEq]at ht;subst ht;exact nilK true he rfl rfl ⟨_,_,_,hu⟩
  rename_i z op _ _ _ _ _;simp only[Option.some.injEq]at ht;subst ht;simp only[eff]at he;split at he
  ·cases he
  ·rename_i vx vy hne hx hy;obtain⟨v,rfl,rfl,hrun⟩:=scal_inv he;have e1:=get_val h hx;have e2:=get_val h hy;have hq:=eqGuard_const op t y z vx vy (fun hh=>hne hh.1 hh.2);have hr:=hrun w;refine vD rfl (v:=v) ?_ (.pv (.v v));simp only[execOp,hop,e1,e2];rw[hq];simp only[Sem.run_bind]at hr ⊢;rw[hr];rfl
  ·cases he
 |unOp op t y=>
  simp only[z24,hop,Option.some.injEq]at ht;subst ht;simp only[eff]at he;split at he
  ·rename_i vx hx;obtain⟨v,rfl,rfl,hrun⟩:=scal_inv he;exact vD rfl (by simp[execOp,hop,get_val h hx,hrun w,Result.andThen]) (.pv (.v v))
  ·cases he
 |convert src dst y=>
  simp only[z24,hop]at ht;split at ht<;>try(cases ht;done)
  ·rename_i k1 k2 hs hd;cases ht;simp only[eff]at he;obtain⟨n,h1,h2⟩:=gO he;cases h2;obtain⟨ty,hy1,hy2⟩:=gB h1;obtain⟨k,hk⟩:=int_rel (z17 h hy1) hy2;exact vD rfl (v:=.int k2 (k2.wrap n)) (by simp[execOp,hop,hk,convert,run_underlying hs,run_underlying hd,Conv.intToInt,Result.andThen]) (.pv (.v _))
  ·rename_i hs hd;cases ht;simp only[eff]at he;obtain⟨n,h1,h2⟩:=gO he;cases h2;obtain⟨ty,hy1,hy2⟩:=gB h1;have hk:=str_rel (z17 h hy1) hy2;exact vD rfl (v:=.string n) (by simp[execOp,hop,hk,convert,run_underlying hs,run_underlying hd,Result.andThen]) (.pv (.v _))
  ·rename_i e hs hd;split at ht<;>try(cases ht;done)
   rename_i he8;cases ht;simp only[eff]at he;obtain⟨l,h1,h2⟩:=gO he;cases h2;obtain⟨es,hes,hl⟩:=gB h1;obtain⟨ty,hy1,hy2⟩:=gB hes;have hrel:=z157 (z17 h hy1) hy2;have hb:=run_b2s (P:=P) hrel hl;obtain⟨b,off,cap,p,f,hv,_⟩:=z50 hrel;rw[hv]at hb;exact vD rfl (v:=.string ⟨l.toArray⟩) (by simp[execOp,hop,hv,convert,run_underlying hs,run_underlying hd,run_underlying he8,hb,Result.andThen]) (.pv (.v _))
 |slice t y lo hi mx=>
  cases mx with
  |some m=>simp[z24,hop]at ht
  |none=>
   simp only[z24,hop]at ht;split at ht
   ·rename_i hu;cases ht;simp only[eff]at he;split at he
    ·rename_i z hz;obtain⟨ty,hy1,hy2⟩:=gB hz;have hv:=str_rel (z17 h hy1) hy2;split at he
     ·rename_i l hh hl1 hh1;split at he
      ·rename_i hle;cases he;have hl2:=z156 h hl1;have hh2:=z156 h hh1;have hrun:=run_ssub (P:=P) (w:=w) hu z (lo.map a.eval) (hi.map a.eval) l hh
        (hl2.imp (fun⟨h1,h2⟩=>⟨by rw[h1];rfl,h2⟩) (fun⟨q,k,h1,h2⟩=>⟨k,by rw[h1,Option.map_some,h2]⟩))
        (hh2.imp (fun⟨h1,h2⟩=>⟨by rw[h1];rfl,h2⟩) (fun⟨q,k,h1,h2⟩=>⟨k,by rw[h1,Option.map_some,h2]⟩)) hle.1 hle.2
       exact vD rfl (v:=.string (z.extract l hh)) (by simp[execOp,hop,hv,hrun,Result.andThen]) (.pv (.v _))
      ·cases he
     ·cases he
    ·cases he
   ·rename_i e hu;split at ht<;>try(cases ht;done)
    rename_i i hi';cases ht;simp only[eff]at he;split at he
    ·rename_i d off n c hbs;have hx:=z17 h hbs;generalize hv:a.eval y=v at hx;cases hx with
     |bs _ _ _ _ C hnc hcC hCm=>
     split at he
     ·rename_i l hh hl1 hh1;split at he
      ·rename_i hle;cases he;have hl2:=z156 h hl1;have hh2:=z156 h hh1;have hrun:=run_slice_any (P:=P) (w:=w) hu hi' (some ⟨E.β d,off,none⟩) n C (lo.map a.eval) (hi.map a.eval) l hh
        (hl2.imp (fun⟨h1,h2⟩=>⟨by rw[h1];rfl,h2⟩) (fun⟨q,k,h1,h2⟩=>⟨k,by rw[h1,Option.map_some,h2]⟩))
        (hh2.imp (fun⟨h1,h2⟩=>⟨by rw[h1];rfl,h2⟩) (fun⟨q,k,h1,h2⟩=>⟨k,by rw[h1,Option.map_some,h2]⟩)) hle.1 hle.2.1 (by omega)
       refine vD rfl (v:=.slice (if C=l then some ⟨E.β d,off,none⟩ else(some (⟨E.β d,off,none⟩:Addr)).map (·.add (l*i.size))) (hh-l) (C-l)) (by simp only[execOp,hop,hv,Option.map_none];rw[Sem.run_bind,hrun];rfl) ?_;by_cases hcl:c=l
       ·have h0:hh-l=0:=by omega
        rw[if_pos hcl,h0];exact .pv (.sl i.size [] 0 0 (C-l) _ (fun _ _=>undef) (by simp) (Nat.zero_le _) (by omega) (by simp) (by simp) (by simp))
       ·have h0:¬C=l:=by omega
        simp only[if_neg h0,if_neg hcl,Option.map_some,Addr.add_mid];exact .bs d _ _ _ _ (by omega) (by omega) (by omega)
      ·cases he
     ·cases he
    ·rename_i ty hnb hy1;split at he<;>try(cases he;done)
     rename_i es hy2;have hrel:=z157 (z17 h hy1) hy2;obtain⟨b,off,cap,p,f,hv,hp,hcap,hmax,hW,hc⟩:=z50 hrel;split at he
     ·rename_i l hh hl1 hh1;split at he
      ·rename_i hle;cases he;have hl2:=z156 h hl1;have hh2:=z156 h hh1;have hrun:=run_slice_any (P:=P) (w:=w) hu hi' p es.length cap (lo.map a.eval) (hi.map a.eval) l hh
        (hl2.imp (fun⟨h1,h2⟩=>⟨by rw[h1];rfl,h2⟩) (fun⟨q,k,h1,h2⟩=>⟨k,by rw[h1,Option.map_some,h2]⟩))
        (hh2.imp (fun⟨h1,h2⟩=>⟨by rw[h1];rfl,h2⟩) (fun⟨q,k,h1,h2⟩=>⟨k,by rw[h1,Option.map_some,h2]⟩)) hle.1 hle.2 hcap
       refine vD rfl (v:=.slice (if cap=l then p else p.map (·.add (l*i.size))) (hh-l) (cap-l)) ?_ (.pv ?_)
       ·simp[execOp,hop,hv,hrun,Result.andThen]
       ·have hlen:((es.take hh).drop l).length=hh-l:=by simp;omega
        have hget:∀(k:Nat) ps,((es.take hh).drop l)[k]?=some ps→es[l+k]?=some ps∧k<hh-l:=by
         intro k ps hk;have hk':k<hh-l:=by rw[←hlen];exact(gJ hk).1
         rw[List.getElem?_drop,List.getElem?_take_of_lt (by omega)]at hk;exact⟨hk,hk'⟩
        rw[←hlen];refine .sl i.size _ b (off+l*i.size) (cap-l) _ (fun k j=>f (l+k) j) (fun hne=> ?_) (by rw[hlen];omega) (by omega) (fun cs hcs=>hW cs (List.mem_of_mem_take (List.mem_of_mem_drop hcs))) (fun k j ps c h1 h2=> ?_) (fun k j ps c h1 h2=> ?_)
        ·have h0:0<hh-l:=by rw[←hlen];exact List.length_pos_iff.2 hne
         have hpe:=hp (by rintro rfl;simp at hle;omega);rw[if_neg (by omega),hpe];simp[Addr.add_mid]
        ·obtain⟨h3,_⟩:=hget k ps h1;have:=(hc (l+k) j ps c h3 h2).1;rw[Nat.add_mul,←Nat.add_assoc]at this;exact this
        ·obtain⟨h3,_⟩:=hget k ps h1;exact(hc (l+k) j ps c h3 h2).2
      ·cases he
     ·cases he
    ·cases he
   ·cases ht
 |fieldAddr t y k=>
  simp only[z24,hop]at ht;split at ht<;>try(cases ht;done)
  rename_i fs hu;split at ht<;>try(cases ht;done)
  rename_i fd hfd;split at ht<;>try(cases ht;done)
  rename_i i hi;split at ht
  ·cases ht
  rename_i hsz;cases ht;have hrun:∀(b off:Nat),(Instr.fieldAt t (.pointer (some ⟨b,off,none⟩)) k).run P w=.ok (.pointer (some ⟨b,off+fd.offset,none⟩)) w:=by
   intro b off;simp[Instr.fieldAt,run_underlying hu,hfd,Instr.sureAddr,fieldPlace,z101 hi,hsz,Addr.add_mid,Result.andThen]
  simp only[eff]at he;split at he
  ·rename_i d off hz;cases he;have hx:=z17 h hz;generalize hv:a.eval y=v at hx;cases hx;exact vD rfl (by simp[execOp,hop,hv,hrun,Result.andThen]) (.ptr d (off+fd.offset))
  ·rename_i cs hz;cases he;have hx:=z17 h hz;generalize hv:a.eval y=v at hx;cases hx with
   |pv hx=>
   cases hx with
   |el _ b off f h1 h2=>
    refine vD rfl (v:=.pointer (some ⟨b,off+fd.offset,none⟩)) (by simp[execOp,hop,hv,hrun,Result.andThen]) (.pv ?_);refine .el _ b (off+fd.offset) (fun j=>f (fd.offset+j)) (fun j c hc=> ?_) (fun j c hc=>h2 _ c (by simpa using hc));have:=h1 (fd.offset+j) c (by simpa using hc);rw[←Nat.add_assoc]at this;exact this
  ·cases he
 |field t y k=>
  simp only[z24,hop]at ht;split at ht<;>try(cases ht;done)
  rename_i fs hu;split at ht<;>try(cases ht;done)
  rename_i fd hfd;split at ht<;>try(cases ht;done)
  rename_i i d hi hd;cases ht;simp only[eff]at he;split at he
  ·rename_i cs hz;have hx:=z17 h hz;generalize hv:a.eval y=v at hx;cases hx with
   |agg _ vs hl hat hones=>
   have hL:RelL w E s.r cs vs:=⟨hl,hat,hones⟩
   cases hR:d.isRow with
   |true=>
    simp only[hR,if_true]at he;split at he
    ·cases he;refine vD rfl (v:=.agg ((vs.drop fd.offset).take i.size).toArray) ?_ (((hL.drop _).take _).agg);simp[execOp,hop,hv,Instr.field,run_underlying hu,hfd,asAgg,part,run_isAgg hd,hR,z101 hi,Result.andThen]
    ·cases he
   |false=>
    simp only[hR,Bool.false_eq_true,if_false]at he;obtain⟨c,hc,h2⟩:=gO he;cases h2;have hlt:fd.offset<vs.length:=by rw[←hl];exact(gJ hc).1
    refine vD rfl (v:=vs[fd.offset]) ?_ (hat _ _ _ hc (gE hlt));simp[execOp,hop,hv,Instr.field,run_underlying hu,hfd,asAgg,part,run_isAgg hd,hR,hlt,Result.andThen]
  ·cases he
 |indexAddr t y z=>
  simp only[z24,hop]at ht;split at ht<;>try(cases ht;done)
  rotate_left
  ·rename_i n e hu;split at ht<;>try(cases ht;done)
   rename_i kk k i hi;split at ht<;>try(cases ht;done)
   rename_i h0;cases ht;have hez:a.eval (.const (.int kk k))=.int kk k:=rfl;have hrun:∀(b off:Nat),(Instr.indexAt t (.pointer (some ⟨b,off,none⟩)) (.int kk k)).run P w=.ok (.pointer (some ⟨b,off+k.toNat*i.size,none⟩)) w:=by
    intro b off;simp[Instr.indexAt,asIntOf,run_underlying hu,h0.1,h0.2,Instr.sureAddr,z101 hi,Addr.add_mid,Result.andThen]
   simp only[eff]at he;split at he
   ·rename_i d off hz;cases he;have hx:=z17 h hz;generalize hv:a.eval y=v at hx;cases hx;exact vD rfl (by simp[execOp,hop,hv,hez,hrun,Result.andThen]) (.ptr d (off+k.toNat*i.size))
   ·rename_i cs hz;cases he;have hx:=z17 h hz;generalize hv:a.eval y=v at hx;cases hx with
    |pv hx=>
    cases hx with
    |el _ b off f h1 h2=>
     refine vD rfl (v:=.pointer (some ⟨b,off+k.toNat*i.size,none⟩)) (by simp[execOp,hop,hv,hez,hrun,Result.andThen]) (.pv ?_);refine .el _ b (off+k.toNat*i.size) (fun j=>f (k.toNat*i.size+j)) (fun j c hc=> ?_) (fun j c hc=>h2 _ c (by simpa using hc));have:=h1 (k.toNat*i.size+j) c (by simpa using hc);rw[←Nat.add_assoc]at this;exact this
   ·cases he
  rename_i e hu;split at ht<;>try(cases ht;done)
  rename_i i hi;cases ht;simp only[eff]at he;split at he
  ·rename_i d off n c k hbs hk;split at he
   ·rename_i h0;cases he;obtain⟨tz,hz1,hz2⟩:=gB hk;obtain⟨kk,hkk⟩:=int_rel (z17 h hz1) hz2;have hx:=z17 h hbs;generalize hv:a.eval y=v at hx;cases hx;refine vD rfl (v:=.pointer (some ⟨E.β d,off+k.toNat*i.size,none⟩)) ?_ (.ptr d _);simp[execOp,hop,hv,hkk,Instr.indexAt,asIntOf,run_underlying hu,h0.1,h0.2,z101 hi,Addr.add_mid,Result.andThen]
   ·cases he
  ·rename_i ty k hnb hy1 hk;split at he
   ·rename_i h0;obtain⟨cs,hcs0,h2⟩:=gO he;cases h2;obtain⟨es,hy2,hcs⟩:=gB hcs0;obtain⟨tz,hz1,hz2⟩:=gB hk;obtain⟨kk,hkk⟩:=int_rel (z17 h hz1) hz2;have hrel:=z157 (z17 h hy1) hy2;obtain⟨b,off,cap,p,f,hv,hp,hcap,hmax,hW,hc⟩:=z50 hrel;have hlt:k.toNat<es.length:=(gJ hcs).1;have hpe:=hp (by rintro rfl;simp at hlt);subst hpe;refine vD rfl (v:=.pointer (some ⟨b,off+k.toNat*i.size,none⟩)) ?_ (.pv ?_)
    ·have hlt':k<(es.length:Int):=by omega
     simp[execOp,hop,hv,hkk,Instr.indexAt,asIntOf,run_underlying hu,h0,hlt',z101 hi,Addr.add_mid,Result.andThen]
    ·exact .el cs b (off+k.toNat*i.size) (fun j=>f k.toNat j) (fun j c hj=>(hc _ j cs c hcs hj).1) (fun j c hj=>(hc _ j cs c hcs hj).2)
   ·cases he
  ·cases he
 |lookup t y i c=>
  cases c with
  |true=>simp only[z24,hop]at ht;cases ht
  |false=>
  simp only[z24,hop]at ht;split at ht<;>try(cases ht;done)
  rename_i kt et hu;split at ht<;>try(cases ht;done)
  rename_i j hj;split at ht<;>try(cases ht;done)
  rename_i z hz;split at ht<;>try(cases ht;done)
  rename_i hones;have hzr:∀w,(zeroValue et).run P w=.ok z w:=fun w=>by simp[zeroValue,typeInfo,hj,hz,Result.andThen]
  have hzt:RelT w E s.r (zeroT z) z:=by
   unfold zeroT;split
   ·rename_i cs;have:=(RelL.ofVals (w:=w) (E:=E) (r:=s.r) (vs:=cs.toList) (fun v hv=>List.all_eq_true.1 hones v hv)).agg;simpa using this
   ·exact .pv (.v _)
  have key:∀text,P.underlying kt=some (kdOf text)→sop=.lkp text z (.of y) (.of i)→o.wp P a w next Q:=by
   intro text hk hs;subst hs;simp only[eff]at he;split at he
   ·rename_i ks xs kv hy hi';obtain⟨ti,hi1,hi2⟩:=gB hi';have hkv:=val1_rel (z17 h hi1) hi2;have hm:=z17 h hy;generalize hv:a.eval y=v at hm;cases hm with
    |mp ks xs b es clock gv q1 q2 q3 q4 q5=>
    subst q2;split at he
    ·rename_i jj hf;obtain⟨tj,t1,t2⟩:=gO he;cases t2;have hrun:=run_lkp (P:=P) hu hk (hzr w) q1 hf;have hlt:jj<es.toList.length:=by have:=(gJ t1).1;rw[q3,List.length_map]at this;exact this
     have hg:=q4 jj _ (gE hlt);refine vD rfl (v:=gv jj) ?_ (q5 jj _ t1);simp only[gE hlt,Option.map_some,Option.getD_some,hg]at hrun;simp[execOp,hop,hv,hkv,hrun,Result.andThen]
    ·rename_i hf;cases he;have hrun:=run_lkp (P:=P) hu hk (hzr w) q1 hf;exact vD rfl (v:=z) (by simp[execOp,hop,hv,hkv,hrun,Result.andThen]) hzt
    ·cases he
   ·cases he
  split at ht<;>try(cases ht;done)
  ·rename_i hk;cases ht;exact key true hk rfl
  ·rename_i hk;cases ht;exact key false hk rfl
 |index t y z=>
  simp only[z24,hop]at ht;split at ht<;>try(cases ht;done)
  rename_i hu;cases ht;simp only[eff]at he;split at he
  ·rename_i zs k hx hy;split at he
   ·rename_i h0;obtain⟨bt,h1,h2⟩:=gO he;cases h2;obtain⟨ty,hy1,hy2⟩:=gB hx;obtain⟨tz,hz1,hz2⟩:=gB hy;have hv:=str_rel (z17 h hy1) hy2;obtain⟨kk,hkk⟩:=int_rel (z17 h hz1) hz2;have hget:zs[k.toNat]?=some bt:=by
     have hlt:=(gJ h1).1;have hlt':k.toNat<zs.size:=by simpa using hlt
     rw[getElem?_pos zs k.toNat hlt'];have:=(gJ h1).2;rw[←this];simp;rfl
    exact vD rfl (v:=.int .u8 bt.toNat) (by simp[execOp,hop,hv,hkk,Instr.index,asIntOf,run_underlying hu,h0,hget,Result.andThen]) (.pv (.v _))
   ·cases he
  ·cases he
 |extract y k=>
  simp only[z24,hop,Option.some.injEq]at ht;subst ht;simp only[eff]at he;split at he
  ·rename_i ts hz;obtain⟨c,hc,h2⟩:=gO he;cases h2;have hx:=z17 h hz;generalize hv:a.eval y=v at hx;cases hx with
   |tuple _ vs hl hat=>
   have hlt:k<vs.length:=by rw[←hl];exact(gJ hc).1
   exact vD rfl (v:=vs[k]) (by simp[execOp,hop,hv,Instr.extract,hlt]) (hat _ _ _ hc (gE hlt))
  ·cases he
 |makeFunc fn fst cap=>
  simp only[z24,hop,Option.some.injEq]at ht;subst ht;simp only[eff]at he;split at he
  ·rename_i xa xb ha hb;cases he;obtain⟨a1,a2,_⟩:=get_list h ha;obtain⟨b1,b2,_⟩:=get_list h hb;refine vD rfl (v:=.func fn (fst.map a.eval) (cap.map a.eval)) (by simp[execOp,hop,Instr.makeFunc]) ?_;have e1:fst.map a.eval=(fst.toList.map a.eval).toArray:=by rw[←Array.toList_map,Array.toArray_toList]
   have e2:cap.map a.eval=(cap.toList.map a.eval).toArray:=by rw[←Array.toList_map,Array.toArray_toList]
   rw[e1,e2];exact .fn fn xa xb _ _ a1 b1 a2 b2
  ·cases he
 |range t y=>
  simp only[z24,hop]at ht;split at ht<;>try(cases ht;done)
  rename_i hu;cases ht;simp only[eff]at he;split at he
  ·rename_i d z hd hz;cases he;obtain⟨ty,hy1,hy2⟩:=gB hz;have hv:=str_rel (z17 h hy1) hy2;obtain⟨E',hE,hS⟩:=h.newI (hf d (by simp[SOp.news,hd])) z;refine z71 (s':=s.setI d (z,0)) ⟨.value (.pointer (some ⟨w.heap.size,0,none⟩)),_,w.alloc (.stringIter z 0),E',?_,.inl rfl,hS,?_⟩ hdst hn
   ·simp[execOp,hop,hv,Instr.range,run_underlying hu,Result.andThen]
   ·rw[←hE];exact .it d
  ·cases he
 |next y str=>
  cases str with
  |false=>simp[z24,hop]at ht
  |true=>
   simp only[z24,hop,Option.some.injEq]at ht;subst ht;simp only[eff]at he;split at he
   ·rename_i d hz;have hx:=z17 h hz;generalize hv:a.eval y=v at hx;cases hx;split at he
    ·rename_i z p hi;obtain⟨h1,h2⟩:=h.itr d z p hi;have hr3:∀(v1 v2 v3:Value) (w:World) (E:Env) (r:Rows),RelT w E r (.tuple [.pv (.v v1),.pv (.v v2),.pv (.v v3)]) (.tuple #[v1,v2,v3]):=by
      intro v1 v2 v3 w E r;refine .tuple _ [v1,v2,v3] rfl (fun j c v hc hv=> ?_)
      match j with
      |0=>simp at hc hv;subst hc;subst hv;exact .pv (.v _)
      |1=>simp at hc hv;subst hc;subst hv;exact .pv (.v _)
      |2=>simp at hc hv;subst hc;subst hv;exact .pv (.v _)
      |n+3=>simp at hc
     split at he
     ·rename_i hlt;cases he;refine z71 (s':=s.setI d (z,p+(Utf8.decode z p).2)) ⟨.value (.tuple #[.bool true,.int .i64 p,.int .i32 (Utf8.decode z p).1]),_,_,E,?_,.inl rfl,h.goI hi,hr3 _ _ _ _ _ _⟩ hdst hn;simp[execOp,hop,hv,Instr.next,getObj,setObj,Sem.run,h1,hlt,Result.andThen,goInt]
     ·rename_i hlt;cases he;refine vD rfl (v:=.tuple #[.bool false]) ?_ ?_
      ·simp[execOp,hop,hv,Instr.next,getObj,Sem.run,h1,hlt,Result.andThen]
      ·refine .tuple _ [.bool false] rfl (fun j c v hc hv=> ?_)
       match j with
       |0=>simp at hc hv;subst hc;subst hv;exact .pv (.v _)
       |n+1=>simp at hc
    ·cases he
   ·cases he
 |makeSlice t ln cp=>
  simp only[z24,hop]at ht;split at ht<;>try(cases ht;done)
  rename_i e la lb hu;split at ht<;>try(cases ht;done)
  rename_i hab;obtain rfl:=Nat.eq_of_beq_eq_true hab;split at ht<;>try(cases ht;done)
  rename_i i hi;split at ht<;>try(cases ht;done)
  rename_i zv hz;split at ht<;>try(cases ht;done)
  rename_i hzl;cases ht;simp only[eff]at he;split at he
  ·rename_i d k hd hk;split at he
   ·rename_i hle;cases he;exact z71 (does_mks h hop hu hi hz hzl hd (hno d hd) (hf d (by simp[SOp.news,hd])) hk hle) hdst hn
   ·cases he
  ·cases he
 |call c=>
  obtain⟨callee,args,ats⟩:=c;cases callee with
  |invoke=>simp[z24,hop]at ht
  |value gf=>
   have harr:(args.toList.map a.eval).toArray=args.map a.eval:=by rw[←Array.toList_map,Array.toArray_toList]
   cases gf with
   |func f=>
    simp only[z24,hop]at ht;split at ht<;>try(cases ht;done)
    rename_i fn hfn;split at ht<;>try(cases ht;done)
    rename_i hb;cases ht;simp only[eff]at he;obtain⟨xs,hxs,he⟩:=gB he;obtain⟨a1,a2,a3⟩:=get_list h hxs;refine wp_callAt h hG hX a3 a1 a2 (fun hbody=> ?_) hdst hC hm0 (fun q hq=>hf _ (by simp only[SOp.news];match q,hq with|0,_=>simp|1,_=>simp|2,_=>simp|3,_=>simp)) he hn;obtain⟨fn',body,h1,h2,h3⟩:=hbody;have hex:execOp a.eval o=callFunc f (#[]++args.map a.eval++ #[]):=by
     obtain⟨dst,op,type,pos,after,guard⟩:=o
     dsimp only at hop
     subst hop;rfl
    rw[hex,harr];simp[callFunc,h1,h2,h3]
   |tmp tt=>
    simp only[z24,hop,Option.some.injEq]at ht;subst ht;simp only[eff]at he;split at he
    ·rename_i f fa fb vs hcal hvs;obtain⟨tc,hc1,hc2⟩:=gB hcal;obtain⟨a1,a2,a3⟩:=get_list h hvs;have hcr:=z17 h (x:=.tmp tt) hc1;obtain⟨us,cs,e1,e2,e3,e4,e5,e6⟩:=callee_rel hcr hc2;refine wp_callAt (vs:=us++args.toList.map a.eval++cs) h hG hX (xs:=fa++vs++fb) ?_ ?_ ?_ (fun hbody=> ?_) hdst hC hm0 (fun q hq=>hf _ (by simp only[SOp.news];match q,hq with|0,_=>simp|1,_=>simp|2,_=>simp|3,_=>simp)) he hn
     ·intro x hx d hd;rcases List.mem_append.1 hx with hx|hx
      ·rcases List.mem_append.1 hx with hx|hx
       ·exact z29 hc1 (e6 x (.inl hx) d hd)
       ·exact a3 x hx d hd
      ·exact z29 hc1 (e6 x (.inr hx) d hd)
     ·simp[e2,e3];simpa using a1
     ·have hq1:=relApp (xs:=fa) (ys:=vs) e2 (by simpa using a1) e4 a2;exact relApp (by simp[e2];simpa using a1) e3 hq1 e5
     ·obtain⟨fn',body,h1,h2,h3⟩:=hbody;have hex:execOp a.eval o=callFunc f (us.toArray++args.map a.eval++cs.toArray):=by
       obtain⟨dst,op,type,pos,after,guard⟩:=o
       dsimp only at hop
       subst hop;show(do let d ←Deferred.ofValue (a.eval (.tmp tt)) (args.map a.eval);invoke d.target d.args)=_;rw[e1];rfl
      rw[hex];have:(us++args.toList.map a.eval++cs).toArray=us.toArray++args.map a.eval++cs.toArray:=by
       rw[←harr];simp
      rw[this];simp[callFunc,h1,h2,h3]
    ·cases he
   |_=>simp[z24,hop]at ht
  |builtin b=>
   cases b with
   |len=>
    simp only[z24,hop]at ht;split at ht<;>try(cases ht;done)
    rename_i t y hat har;obtain rfl:args= #[y]:=by rw[←Array.toArray_toList (xs:=args),har]
    obtain rfl:ats= #[t]:=by rw[←Array.toArray_toList (xs:=ats),hat]
    split at ht<;>try(cases ht;done)
    ·rename_i e hu;cases ht;simp only[eff]at he;obtain⟨n,hn1,h2⟩:=gO he;cases h2;obtain⟨ty,hy1,hy2⟩:=gB hn1;obtain⟨p,c,hv⟩:=slen_rel (z17 h hy1) hy2;refine vD rfl (v:=.int .i64 n) ?_ (.pv (.v _));simp[execOp,hop,resolve,invoke,builtin,hv,Builtin.len_,run_underlying hu,goInt,Result.andThen]
    ·rename_i hu;cases ht;simp only[eff]at he;obtain⟨n,hn1,h2⟩:=gO he;cases h2;obtain⟨ty,hy1,hy2⟩:=gB hn1;have hv:=str_rel (z17 h hy1) hy2;refine vD rfl (v:=.int .i64 n.size) ?_ (.pv (.v _));simp[execOp,hop,resolve,invoke,builtin,hv,Builtin.len_,run_underlying hu,goInt,Result.andThen]
   |min=>
    simp only[z24,hop]at ht;split at ht<;>try(cases ht;done)
    rename_i y z t t2 har hat;obtain rfl:args= #[y,z]:=by rw[←Array.toArray_toList (xs:=args),har]
    split at ht<;>try(cases ht;done)
    cases ht;simp only[eff]at he;split at he
    ·rename_i x1 x2 h1 h2;cases he;have e1:=val_rel (y:=.int .i64 x1) (z17 h h1) rfl;have e2:=val_rel (y:=.int .i64 x2) (z17 h h2) rfl;refine vD rfl (v:=.int .i64 (min x1 x2)) ?_ (.pv (.v _));have:(if x2<x1 then x2 else x1)=min x1 x2:=by rw[Int.min_def];split<;>split<;>omega
     simp[execOp,hop,resolve,invoke,builtin,e1,e2,Builtin.min_,Builtin.min2,this]
    ·cases he
   |max=>
    simp only[z24,hop]at ht;split at ht<;>try(cases ht;done)
    rename_i y z t t2 har hat;obtain rfl:args= #[y,z]:=by rw[←Array.toArray_toList (xs:=args),har]
    split at ht<;>try(cases ht;done)
    cases ht;simp only[eff]at he;split at he
    ·rename_i x1 x2 h1 h2;cases he;have e1:=val_rel (y:=.int .i64 x1) (z17 h h1) rfl;have e2:=val_rel (y:=.int .i64 x2) (z17 h h2) rfl;refine vD rfl (v:=.int .i64 (max x1 x2)) ?_ (.pv (.v _));have:(if x2>x1 then x2 else x1)=max x1 x2:=by rw[Int.max_def];split<;>split<;>omega
     simp[execOp,hop,resolve,invoke,builtin,e1,e2,Builtin.max_,Builtin.max2,this]
    ·cases he
   |append=>
    simp only[z24,hop]at ht;split at ht<;>try(cases ht;done)
    rename_i y z t tx har hat;obtain rfl:args= #[y,z]:=by rw[←Array.toArray_toList (xs:=args),har]
    obtain rfl:ats= #[t,tx]:=by rw[←Array.toArray_toList (xs:=ats),hat]
    split at ht<;>try(cases ht;done)
    rename_i e hu;split at ht<;>try(cases ht;done)
    rename_i i hi;split at ht<;>try(cases ht;done)
    rename_i zv hz;split at ht<;>try(cases ht;done)
    rename_i hzl;have hnil:((Arg.of y).get s).map TV.isNil=some true→a.eval y=.slice none 0 0:=by
     intro hy;obtain⟨ty,h1,h2⟩:=gO hy;have:=z17 h h1;unfold TV.isNil at h2;split at h2
     ·exact val_rel (y:=.slice none 0 0) this rfl
     ·cases h2
    split at ht<;>try(cases ht;done)
    ·rename_i e' htx;cases hin2:Nat.beq hint 2 with
     |true=>
      rw[hin2]at ht;simp only[if_true,Option.some.injEq]at ht;subst ht;simp only[eff]at he;split at he
      ·rename_i d es2 hd hnl hes;split at he
       ·rename_i hle;obtain⟨tz,hz1,hz2⟩:=gB hes;have hsrc:=src_of hzl.2 (z157 (z17 h hz1) hz2) htx;split at he
        ·rename_i hem;cases he;obtain rfl:=List.isEmpty_iff.1 hem;exact z71 (does_appB0 (P:=P) h hop hu hi (hnil hnl) hsrc) hdst hn
        ·rename_i hem;cases he;rw[hd]at hn hdst;exact z71 (s':=s.setB d (es2.flatten.map .pv)) (does_appB (P:=P) h hop hu hi hz hzl.1 hzl.2 (hno d hd) (hf d (by simp[SOp.news,hd])) (hnil hnl) hsrc (fun e=>hem (by rw[e];rfl)) hle.1 hle.2) (by rw[hd];exact hdst) (by rw[hd];exact hn)
       ·cases he
      ·cases he
     |false=>
     rw[hin2]at ht;simp only[Bool.false_eq_true,if_false]at ht;cases hin:Nat.beq hint 1 with
     |true=>
      rw[hin]at ht;simp only[if_true,Option.some.injEq]at ht;subst ht;simp only[eff]at he;split at he
      ·rename_i d es2 hd hnl hes;split at he
       ·rename_i hle;cases he;obtain⟨tz,hz1,hz2⟩:=gB hes;have:=does_appN (P:=P) h hop hu hi hz hzl.1 hzl.2 (hno d hd) (hf d (by simp[SOp.news,hd])) (hnil hnl) (src_of hzl.2 (z157 (z17 h hz1) hz2) htx) hle.1 hle.2;rw[hd]at hn hdst;refine z71 (s':=s.setR d (e,i.size,es2.length)) this (by rw[hd];exact hdst) (by rw[hd];exact hn)
       ·cases he
      ·cases he
     |false=>
      rw[hin]at ht;simp only[Bool.false_eq_true,if_false,Option.some.injEq]at ht;subst ht;simp only[eff]at he;split at he
      ·rename_i d W' es es2 hy hes;split at he
       ·rename_i hle;obtain⟨rfl,hr,h1,h2⟩:=hle;cases he;obtain⟨tz,hz1,hz2⟩:=gB hes;have:=does_app (P:=P) h hop hu hi hz hzl.1 hzl.2 rfl hr (z17 h hy) (src_of hzl.2 (z157 (z17 h hz1) hz2) htx) h1 h2;exact z71 this hdst hn
       ·cases he
      ·cases he
    ·rename_i htx;split at ht<;>try(cases ht;done)
     rename_i h1s;cases hin:Nat.beq hint 1 with
     |true=>
      rw[hin]at ht;simp only[if_true,Option.some.injEq]at ht;subst ht;simp only[eff]at he;split at he
      ·rename_i d b hd hnl hes;split at he
       ·rename_i hle;cases he;obtain⟨tz,hz1,hz2⟩:=gB hes;have hbl:(bytesP b).length=b.size:=by unfold bytesP;rw[List.length_map,Array.length_toList];rfl
        have:=does_appN (P:=P) (es2:=bytesP b) h hop hu hi hz hzl.1 hzl.2 (hno d hd) (hf d (by simp[SOp.news,hd])) (hnil hnl) (by rw[h1s,str_rel (z17 h hz1) hz2];exact src_str b htx) (by rw[hbl];exact hle.1) (by rw[hbl];exact hle.2);rw[h1s,hbl]at this;rw[hd]at hn hdst;exact z71 (s':=s.setR d (e,1,b.size)) this (by rw[hd];exact hdst) (by rw[hd];exact hn)
       ·cases he
      ·cases he
     |false=>
      rw[hin]at ht;simp only[Bool.false_eq_true,if_false,Option.some.injEq]at ht;subst ht;simp only[eff]at he;split at he
      ·rename_i d W' es b hy hes;split at he
       ·rename_i hle;obtain⟨rfl,hr,h1,h2⟩:=hle;cases he;obtain⟨tz,hz1,hz2⟩:=gB hes;have hbl:(bytesP b).length=b.size:=by unfold bytesP;rw[List.length_map,Array.length_toList];rfl
        have:=does_app (P:=P) (es2:=bytesP b) h hop hu hi hz hzl.1 hzl.2 rfl (by rw[h1s];exact hr) (by rw[h1s];exact z17 h hy) (by rw[h1s,str_rel (z17 h hz1) hz2];exact src_str b htx) (by rw[hbl];exact h1) (by rw[hbl];exact h2);rw[h1s,hbl]at this;exact z71 this hdst hn
       ·cases he
      ·cases he
   |_=>simp[z24,hop]at ht
 |makeInterface t y=>
  simp only[z24,hop]at ht;split at ht<;>try(cases ht;done)
  rename_i d hni hu;cases ht;simp only[eff]at he;obtain⟨v,h1,h2⟩:=gO he;cases h2;have hv:=get_val h h1;refine vD rfl (v:=.iface t v) ?_ (.pv (.v _));cases d<;>first|(exact(hni _ rfl).elim)|(simp[execOp,hop,hv,Instr.makeInterface,run_underlying hu,Result.andThen])
 |panic y=>
  simp only[z24,hop,Option.some.injEq]at ht;subst ht;simp[eff]at he
 |_=>simp[z24,hop]at ht
end
end
end Go.Sh
end
