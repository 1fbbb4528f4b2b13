/- Merged texts: Ya8 Yc3 Op8 WrapE WrapG Ln5 Cd11 Yb1. No statement of the program is proved here. -/
import Derived.Test.YtbkgnekfigknhaaGreatDoorQ37
import Derived.Laws.IdiomArrays
set_option linter.unusedSimpArgs false
set_option linter.unusedVariables false
set_option maxRecDepth 100000
set_option maxHeartbeats 8000000
section
namespace Go.Proofs.YtbkgnekfigknhaaGreatDoor
open Go Go.RowKit Go.Mor Go.Sh Go.Sh.Cd1 Go.Sh.Cd7 Go.Sh.Cd10
section
theorem zjb(g:Sh.Glob)(f:Nat):zC g 122 [.pv (.sl 3 []),.pv (.v (.func (.func f) #[] #[]))] [] zu []:=by
 refine za tf_105 ?_;unfold zu;simp only[vW,seval]
theorem zir(g:Sh.Glob):zC g 62 [scT []] [] (.agg [zu]) []:=by
 have HE:=zjb g 123;refine za tf_100 ?_;unfold scT zu at*;simp only[vW,seval];refine z8 HE ?_;trivial
def zlT(c:Cls):List PV:=[.v (.string (str c.n)),.sl 4 (flR c.fs),.v (.slice none 0 0)]
theorem zk0(es:List (List PV))(c:Cls):PWk (.sl 3 (es++[zlT c])) (.sl 3 (es++[lnR ⟨c,[]⟩])):=
 zmi rfl fun j a b ha hb=>by
  match j with
  |0=>cases ha;cases hb;exact PWk.refl _
  |1=>cases ha;cases hb;exact PWk.refl _
  |2=>cases ha;cases hb;exact zoe 8
  |j+3=>cases ha
theorem zqL{e e':List (List PV)}{x:Int}(h:PWk (.sl 3 e) (.sl 3 e')):Wk (.tuple [.agg [.pv (.sl 3 e)],I x]) (.tuple [.agg [.pv (.sl 3 e')],I x]):=
 z65 (z64 rfl fun j a b ha hb=>by
  match j with
  |0=>cases ha;cases hb;exact ziI h
  |j+1=>cases ha) (ziI (PWk.refl _))
theorem znw(m:Nat)(c:Cls)(hc:zd c=true):zC (glE m) 26 [scT [],clT c] [] (.tuple [scT [⟨c,[]⟩],I 0]) []:=by
 have hk:=z0V hc;have HC:zC (glE m) 61 [scT []] [] (.tuple [I 0,I 0]) []:=z69 m [] (by simp) (fun l hl=>by cases hl);have HR:=z0y (glE m) c hk.1;have HN:zC (glE m) 29 [scT [],S (str c.n)] [] (.tuple [I 0,B false]) []:=z7p (glE m) [] c.n (by simp);have HS:=zir (glE m);have HF:=z5h (glE m) c (by omega);rw[hc]at HR;refine SCalls.out (y:=.tuple [.agg [.pv (.sl 3 [zlT c])],I 0]) ?_ (zqL (zk0 [] c));refine z1I tf_162 ?_;unfold scT clT B zu at*;simp only[vW,seval];refine z8 HC ?_;refine z8 HR ?_;refine z8 HN ?_;simp only[vW,seval,z0d,List.length_nil,Int.natCast_zero,false_imp_iff,true_and];refine z8 HS ?_;right;refine z8 HF ?_;exact⟨by decide,rfl⟩
def z2I{α:Type}(es:List (List α))(z:List α)(k:Nat):List (List α):=es.take k++List.replicate (es.length-k) z
theorem zcv{α:Type}{es:List (List α)}{z:List α}{k:Nat}(h:k≤es.length):(z2I es z k).length=es.length:=by unfold z2I;rw[List.length_append,List.length_take,List.length_replicate];omega
theorem zjn{α:Type}{es:List (List α)}{z:List α}:z2I es z es.length=es:=by unfold z2I;simp
theorem zcw{α:Type}{es:List (List α)}{z:List α}{k W:Nat}(hW:∀cs∈es,cs.length=W)(hz:z.length=W):∀cs∈z2I es z k,cs.length=W:=fun cs h=>by
 rcases List.mem_append.1 h with h|h
 ·exact hW _ (List.mem_of_mem_take h)
 ·rw[(List.mem_replicate.1 h).2];exact hz
theorem zjo{α:Type}{es:List (List α)}{z r:List α}{k W:Nat}(hW:∀cs∈es,cs.length=W)(hz:z.length=W)(hk:es[k]?=some r):List.take (k*W) (z2I es z k).flatten++r++List.drop (k*W+W) (z2I es z k).flatten=(z2I es z (k+1)).flatten:=by
 have hl:=(gJ hk).1;rw[z6W (x:=r) (hW r (gM hk)) (zcw hW hz) (by rw[zcv (by omega)];exact hl)];congr 1;unfold z2I;rw[List.take_add_one,hk,List.set_append,List.length_take,if_neg (by omega),show k-min k es.length=0 by omega,show es.length-k=es.length-(k+1)+1 by omega,List.replicate_succ,List.set_cons_zero,List.append_assoc];rfl
theorem z8b{α:Type}{W:Nat}:∀{es:List (List α)},(∀cs∈es,cs.length=W)→es.flatten.length=es.length*W
 |[],_=>by simp
 |cs::es,h=>by
  rw[List.flatten_cons,List.length_append,z8b (es:=es) (fun x hx=>h x (List.mem_cons_of_mem _ hx)),h cs (List.mem_cons_self ..),List.length_cons,Nat.add_mul];omega
theorem z7i{α:Type}{W:Nat}:∀{es:List (List α)},(∀cs∈es,cs.length=W)→∀{i j:Nat} {cs:List α} {c:α},es[i]?=some cs→cs[j]?=some c→es.flatten[i*W+j]?=some c
 |[],_,i,j,cs,c,h,_=>by simp at h
 |x::es,hW,i,j,cs,c,h,hc=>by
  have hx:=hW x (List.mem_cons_self ..);cases i with
  |zero=>
   rw[List.getElem?_cons_zero]at h;cases h;have:=(gJ hc).1;rw[Nat.zero_mul,Nat.zero_add,List.flatten_cons,List.getElem?_append_left this];exact hc
  |succ i=>
   have ih:=z7i (es:=es) (fun y hy=>hW y (List.mem_cons_of_mem _ hy)) (i:=i) (by simpa using h) hc;rw[List.flatten_cons,List.getElem?_append_right (by rw[hx,Nat.add_mul];omega),show(i+1)*W+j-x.length=i*W+j by rw[hx,Nat.add_mul];omega];exact ih
def WkL(a b:List TV):Prop:=a.length=b.length∧∀(j:Nat) c d,a[j]?=some c→b[j]?=some d→Wk c d
theorem WkL.app{a b c d:List TV}(h:WkL a b)(h':WkL c d):WkL (a++c) (b++d):=⟨by rw[List.length_append,List.length_append,h.1,h'.1],fun j x y hx hy=>by
 rcases Nat.lt_or_ge j a.length with hj|hj
 ·rw[List.getElem?_append_left hj]at hx;rw[List.getElem?_append_left (by rw[←h.1];exact hj)]at hy;exact h.2 j x y hx hy
 ·rw[List.getElem?_append_right hj]at hx;rw[List.getElem?_append_right (by rw[←h.1];exact hj),←h.1]at hy;exact h'.2 _ x y hx hy⟩
theorem WkL.flat:∀{A B:List (List TV)},A.length=B.length→(∀(i:Nat) a b,A[i]?=some a→B[i]?=some b→WkL a b)→WkL A.flatten B.flatten
 |[],[],_,_=>⟨rfl,fun j c d h=>by cases h⟩
 |[],b::B,h,_=>by cases h
 |a::A,[],h,_=>by cases h
 |a::A,b::B,h,H=>by
  rw[List.flatten_cons,List.flatten_cons];exact(H 0 a b rfl rfl).app (WkL.flat (by simpa using h) fun i x y hx hy=>H (i+1) x y hx hy)
def Stab(cs:List TV):Prop:=∀c∈cs,(∃p,c=.pv p)∨∃W es,c=.tsl W es
theorem Stab.tail{c:TV}{cs:List TV}(h:Stab (c::cs)):Stab cs:=fun x hx=>h x (List.mem_cons_of_mem _ hx)
theorem Stab.fgt:∀{cs:List TV},Stab cs→∀ids,List.map (fgt3 ids) cs=cs
 |[],_,_=>rfl
 |c::cs,h,ids=>by
  rw[List.map_cons,Stab.fgt h.tail ids];rcases h c (List.mem_cons_self ..)with⟨p,rfl⟩|⟨W,es,rfl⟩<;>rfl
theorem Stab.ids:∀{cs:List TV},Stab cs→cs.flatMap TV.ids1=[]
 |[],_=>rfl
 |c::cs,h=>by
  rw[List.flatMap_cons,Stab.ids h.tail];rcases h c (List.mem_cons_self ..)with⟨p,rfl⟩|⟨W,es,rfl⟩<;>rfl
theorem Stab.ren:∀{cs:List TV},Stab cs→∀ρ,seqO (TV.ren1 ρ) cs=some cs
 |[],_,_=>rfl
 |c::cs,h,ρ=>by
  have ih:=Stab.ren h.tail ρ;rcases h c (List.mem_cons_self ..)with⟨p,rfl⟩|⟨W,es,rfl⟩<;>simp[seqO,ih,TV.ren1,TV.renF,TV.ren0]
theorem Stab.flat{A:List (List TV)}(h:∀a∈A,Stab a):Stab A.flatten:=fun c hc=>by
 obtain⟨a,ha,hca⟩:=List.mem_flatten.1 hc;exact h a ha c hca
def lnT(l:Ln):List TV:=[S (str l.c.n),.pv (.sl 4 (flR l.c.fs)),tgT 8 (z0P l.hs)]
theorem z7q(ls:List Ln):∀cs∈ls.map lnT,cs.length=3:=fun cs h=>by
 obtain⟨l,_,rfl⟩:=List.mem_map.1 h;rfl
theorem zlU(l:Ln):Stab (lnT l):=fun c hc=>by
 unfold lnT at hc;simp only[List.mem_cons,List.not_mem_nil,or_false]at hc;rcases hc with rfl|rfl|rfl
 ·exact .inl ⟨_,rfl⟩
 ·exact .inl ⟨_,rfl⟩
 ·cases z0P l.hs with
  |nil=>exact .inl ⟨_,rfl⟩
  |cons e r=>exact .inr ⟨_,_,rfl⟩
theorem z8m(ls:List Ln):∀a∈ls.map lnT,Stab a:=fun a h=>by
 obtain⟨l,_,rfl⟩:=List.mem_map.1 h;exact zlU l
theorem zq4(l:Ln):WkL (lnT l) (pvC (lnR l)):=⟨rfl,fun j c d hc hd=>by
 match j with
 |0=>cases hc;cases hd;exact .refl _
 |1=>cases hc;cases hd;exact .refl _
 |2=>cases hc;cases hd;exact zqN 8 _
 |j+3=>cases hc⟩
theorem zmh(es:List (List PV)):es.flatten.map TV.pv=(es.map pvC).flatten:=by
 unfold pvC;rw[List.map_flatten]
theorem zda(g:Sh.Glob)(l:Ln)(hl:l.c.fs.length≤1000)(hh:l.hs.length≤1000):zC g 123 [.agg (pvC (lnR l))] [] (.agg (lnT l)) []:=by
 have HE:=zj9 g 184 (z0P l.hs) (fun cs hcs=>by
  obtain⟨x,hx,rfl⟩:=List.mem_map.1 hcs;rfl) (by rw[z0n];exact hh) (fun cs hcs=>by
  obtain⟨x,hx,rfl⟩:=List.mem_map.1 hcs;exact zmt g x)
 have HC:=z5h g l.c hl;unfold lnR lnT pvC;generalize z0P l.hs=es at*;unfold clT at HC;cases es with
 |nil=>
  unfold tgT at*;refine za tf_107 ?_;simp only[vW,seval];refine z8 HC ?_;refine z8 HE ?_;trivial
 |cons e r=>
  unfold tgT at*;refine za tf_107 ?_;simp only[vW,seval];refine z8 HC ?_;refine z8 HE ?_;trivial
theorem zja(g:Sh.Glob)(ls:List Ln)(h0:ls≠[])(hl:ls.length≤1000)(H:∀l∈ls,zC g 123 [.agg (pvC (lnR l))] [] (.agg (lnT l)) []):
  zC g 122 [.pv (.sl 3 (z1e ls)),.pv (.v (.func (.func 123) #[] #[]))] [] (.bs 1000 0 ls.length 0) [.box (ls.map lnT).flatten]:=by
 refine zn tf_105 ?_;have d0:¬(ls.length:Int)=0:=by have:=List.length_pos_iff.2 h0;omega
 have hrl:(ls.map lnT).length=ls.length:=List.length_map _;have hzs:Stab [TV.pv (.v (.string ⟨#[]⟩)),TV.pv (.v (.slice none 0 0)),TV.pv (.v (.slice none 0 0))]:=fun c hc=>by
  simp only[List.mem_cons,List.not_mem_nil,or_false]at hc;rcases hc with rfl|rfl|rfl<;>exact .inl ⟨_,rfl⟩
 have z0:(List.replicate ls.length [TV.pv (.v (.string ⟨#[]⟩)),TV.pv (.v (.slice none 0 0)),TV.pv (.v (.slice none 0 0))]).flatten=(z2I (ls.map lnT) [TV.pv (.v (.string ⟨#[]⟩)),TV.pv (.v (.slice none 0 0)),TV.pv (.v (.slice none 0 0))] 0).flatten:=by unfold z2I;rw[hrl];simp
 have XS:=fun i=>(Stab.flat fun a (ha:a∈z2I (ls.map lnT) [TV.pv (.v (.string ⟨#[]⟩)),TV.pv (.v (.slice none 0 0)),TV.pv (.v (.slice none 0 0))] i)=>by
  rcases List.mem_append.1 ha with ha|ha
  ·exact z8m ls a (List.mem_of_mem_take ha)
  ·rw[(List.mem_replicate.1 ha).2];exact hzs)
 have X1:=fun i=>(XS i).fgt;have X2:=fun i=>(XS i).ids;have X3:=fun i=>(XS i).ren;clear XS;have hp:=fun i l (ex:ls[i]?=some l)=>zjo (z:=[TV.pv (.v (.string ⟨#[]⟩)),TV.pv (.v (.slice none 0 0)),TV.pv (.v (.slice none 0 0))]) (z7q ls) rfl (show(ls.map lnT)[i]?=some (lnT l) by rw[List.getElem?_map,ex];rfl);have hfl:∀i,i≤ls.length→(z2I (ls.map lnT) [TV.pv (.v (.string ⟨#[]⟩)),TV.pv (.v (.slice none 0 0)),TV.pv (.v (.slice none 0 0))] i).flatten.length=ls.length*3:=fun i hi=>by rw[z8b (zcw (z7q ls) rfl),zcv (by omega),hrl]
 have hend:(z2I (ls.map lnT) [TV.pv (.v (.string ⟨#[]⟩)),TV.pv (.v (.slice none 0 0)),TV.pv (.v (.slice none 0 0))] ls.length).flatten=(ls.map lnT).flatten:=by rw[←hrl,zjn]
 rw[←hend];obtain⟨X,hX⟩:∃X:Nat→List TV,∀i,(z2I (ls.map lnT) [TV.pv (.v (.string ⟨#[]⟩)),TV.pv (.v (.slice none 0 0)),TV.pv (.v (.slice none 0 0))] i).flatten=X i:=⟨_,fun _=>rfl⟩
 simp only[hX]at z0 X1 X2 X3 hp hfl ⊢;clear hend hX;simp only[vW,seval,d0,z0,z0d,List.map_cons,List.map_nil];refine⟨⟨by omega,by unfold maxLen;omega⟩,?_⟩;refine zl (σ:={i:Nat // i≤ls.length}) (fun i=>⟨[(1,.pv (.v (.func (.func 123) #[] #[]))),(5,.bs 13 0 ls.length 0),(14,.pv (.sl 3 (z1e ls))),(15,I (ls.length:Int)),(16,I (i.1:Int))],[(13,X i.1)],[],[]⟩) (fun i=>ls.length-i.1) ⟨0,Nat.zero_le _⟩ ?_ ?_
 ·simp only[X1];exact lwA
 rintro⟨i,hi⟩;by_cases hlt:i<ls.length
 ·have d1:(i:Int)<(ls.length:Int):=by omega
  obtain⟨l,ex⟩:∃x,ls[i]?=some x:=⟨_,gE hlt⟩
  have HC:=H l (gM ex);have hp:=hp i l ex;have hfl:=hfl i hi;have w1:=wS i;have hT:lnT l=[S (str l.c.n),.pv (.sl 4 (flR l.c.fs)),tgT 8 (z0P l.hs)]:=rfl;rw[hT]at hp HC;unfold lnR pvC at HC;simp only[List.map_cons,List.map_nil]at HC;cases hcs:z0P l.hs with
  |nil=>
   rw[hcs]at hp HC;unfold tgT at hp HC;simp only[List.append_assoc,List.cons_append,List.nil_append]at hp;simp only[vW,seval,d1,z0d,z1t,ex,lnR,hcs,X1];(with_reducible apply zx);simp only[vW,seval,X1];rfl;exact HC;rfl;simp only[vW,seval,X1];rfl;simp only[vW,seval,d1,hp,w1,X1];refine⟨by omega,zc ⟨i+1,by omega⟩ (by show ls.length-(i+1)<ls.length-i;omega) ?_⟩;apply z0g<;>simp[leL,lk,sv,Nat.beq,I,S,ES.kill,has,drp,zu,X1]
   exact hp
  |cons e r=>
   rw[hcs]at hp HC;unfold tgT at hp HC;simp only[List.append_assoc,List.cons_append,List.nil_append]at hp;simp only[vW,seval,d1,z0d,z1t,ex,lnR,hcs,X1];(with_reducible apply zx);simp only[vW,seval,X1];rfl;exact HC;rfl;simp only[vW,seval,X1];rfl;simp only[vW,seval,d1,hp,w1,X1];refine⟨by omega,zc ⟨i+1,by omega⟩ (by show ls.length-(i+1)<ls.length-i;omega) ?_⟩;apply z0g<;>simp[leL,lk,sv,Nat.beq,I,S,ES.kill,has,drp,zu,X1]
   exact hp
 ·have d1:¬(i:Int)<(ls.length:Int):=by omega
  obtain rfl:i=ls.length:=by omega
  simp only[vW,seval,d1,X1,X2,X3]
theorem ziq(g:Sh.Glob)(ls:List Ln)(h0:ls≠[])(hn:ls.length≤1000)(hl:∀l∈ls,l.c.fs.length≤1000∧l.hs.length≤1000):zC g 62 [scT ls] [] (.agg [.bs 1000 0 ls.length 0]) [.box (ls.map lnT).flatten]:=by
 have HE:=zja g ls h0 hn (fun l h=>zda g l (hl l h).1 (hl l h).2);have YS:=Stab.flat (z8m ls);have Y1:=YS.fgt;have Y2:=YS.ids;have Y3:=YS.ren;clear YS;generalize(ls.map lnT).flatten=Y at*;refine zn tf_100 ?_;unfold scT;simp only[vW,seval];refine z8 HE ?_ (hs:=by simp only[vW,seval,Y1,Y2,Y3];rfl);simp only[vW,seval,Y1,Y2,Y3]
theorem zq5{ls:List Ln}{k:Nat}{l l':Ln}{r:List TV}(hk:ls[k]?=some l)(hr:WkL r (pvC (lnR l'))):WkL ((ls.map lnT).set k r).flatten ((z1e (ls.set k l')).flatten.map TV.pv):=by
 rw[zmh];unfold z1e;rw[List.map_map];refine WkL.flat (by simp) fun i a b ha hb=> ?_;rw[List.getElem?_map]at hb;by_cases hi:k=i
 ·subst hi;have hkl:=(gJ hk).1;rw[List.getElem?_set_self (by simpa using hkl)]at ha;rw[List.getElem?_set_self hkl]at hb;cases ha;cases hb;exact hr
 ·rw[List.getElem?_set_ne hi,List.getElem?_map]at ha;rw[List.getElem?_set_ne hi]at hb;cases hx:ls[i]? with
  |none=>rw[hx]at ha;cases ha
  |some x=>rw[hx]at ha hb;cases ha;cases hb;exact zq4 x
theorem zpo(ls:List Ln):∀cs∈z1e ls,cs.length=3:=fun cs h=>by
 obtain⟨l,_,rfl⟩:=List.mem_map.1 h;rfl
theorem zoQ{d e W n:Nat}{es es2:List (List PV)}(h0:0<es2.length)(h1:(es.length+es2.length)*n≤140737488355328)(h2:es.length+es2.length≤maxLen):z73 d e W n (some (tgT W es)) (some es2)=some (.own d W (es++es2),.row d (e,W,es.length+es2.length)):=by
 cases es with
 |nil=>
  simp only[List.length_nil,Nat.zero_add]at h1 h2;unfold tgT;rw[e_appN1,if_pos ⟨h1,h2⟩];simp
 |cons e r=>
  unfold tgT;rw[e_appN3,if_pos ⟨rfl,h0,h1,h2⟩]
theorem zoz(m:Nat)(ls:List Ln)(hl:ls.length≤1000)(hs:z7X m ls)(he:(z5K ls).2=0)(hsm:∀l∈ls,l.c.fs.length≤1000∧l.hs.length≤1000){k:Nat}{l:Ln}(hk:ls[k]?=some l)(hlo:LnOk m l)(h12:l.hs.length<12)(h:Chg)(hh:ChOk m h)(ha:(z0x (zj l l.hs.length).1 h).2=0):
  zC (glE m) 27 [scT ls,I (k:Int),chT h] [] (.tuple [scT (ls.set k ⟨l.c,l.hs++[h]⟩),I 0]) []:=by
 have hkl:=(gJ hk).1;have HL:=z6S m ls hl hs he hk;have HM:=zgv m l hlo l.hs.length (Nat.le_refl _);have hrc:=z0V (z1a (z0p hlo.r (Nat.le_refl _)));have HA:=z5J m (zj l l.hs.length).1 h hrc.1 hh (by omega);rw[show z0x (zj l l.hs.length).1 h=((z0x (zj l l.hs.length).1 h).1,0) from by rw[←ha]]at HA;have HS:=ziq (glE m) ls (by intro e;rw[e]at hkl;simp at hkl) hl hsm;generalize(z0x (zj l l.hs.length).1 h).1=d at*;generalize(zj l l.hs.length).1=c0 at*;have d0:¬(12:Int)≤(l.hs.length:Int):=by omega
 have d1:(k:Int)<(ls.length:Int):=by omega
 have hel:(ls.map lnT)[k]?=some (lnT l):=by rw[List.getElem?_map,hk];rfl
 have eg:((ls.map lnT).flatten)[k*3+2]?=some (tgT 8 (z0P l.hs)):=z7i (z7q ls) hel rfl;have hfl:(ls.map lnT).flatten.length=ls.length*3:=by rw[z8b (z7q ls),List.length_map]
 have hY:∀o,List.take (k*3+2) (ls.map lnT).flatten++[o]++List.drop (k*3+2+1) (ls.map lnT).flatten=((ls.map lnT).set k [S (str l.c.n),.pv (.sl 4 (flR l.c.fs)),o]).flatten:=fun o=>by
  rw[←z6W (x:=[S (str l.c.n),.pv (.sl 4 (flR l.c.fs)),o]) rfl (z7q ls) (by rw[List.length_map];exact hkl),List.take_add_one,List.take_add_one];have g0:=z7i (z7q ls) hel (j:=0) rfl;have g1:=z7i (z7q ls) hel (j:=1) rfl;rw[Nat.add_zero]at g0;rw[g0,g1];simp
 have hst:WkL (List.take (k*3+2) (ls.map lnT).flatten++[.own 55 8 (z0P l.hs++[chR h])]++List.drop (k*3+2+1) (ls.map lnT).flatten) ((z1e (ls.set k ⟨l.c,l.hs++[h]⟩)).flatten.map TV.pv):=by
  rw[hY];refine zq5 hk ⟨rfl,fun j c d hc hd=> ?_⟩
  match j with
  |0=>cases hc;cases hd;exact .refl _
  |1=>cases hc;cases hd;exact .refl _
  |2=>
   cases hc;cases hd;have e:z0P (l.hs++[h])=z0P l.hs++[chR h]:=by unfold z0P;rw[List.map_append];rfl
   show Wk _ (.pv (.sl 8 (z0P (l.hs++[h]))));rw[e];exact zkM (PWk.refl _)
  |j+3=>cases hc
 clear hY;unfold chR at hst;have YS:=Stab.flat (z8m ls);have Y1:=YS.fgt;have Y2:=YS.ids;have Y3:=YS.ren;clear YS;generalize(ls.map lnT).flatten=Y at*;refine z2f zg tf_170 rfl ?_
 conv in SFunc.code _=>reduce
 unfold scT lnC z5I clT chT at*;refine zS zg ?_;simp only[vW,seval];refine zS zg ?_;simp only[vW,seval];refine z8 HL ?_;refine zS zg ?_;simp only[vW,seval];refine zS zg ?_;simp only[vW,seval,z0n,d0];refine zS zg ?_;simp only[vW,seval,z0n,d0];refine z7 HM ?_;simp only[vW,seval];refine z8 HA ?_;refine zS zg ?_;simp only[vW,seval];refine z8 HS ?_ (hs:=by simp only[vW,seval,Y1,Y2,Y3];rfl);refine zS zg ?_;simp only[vW,seval,d1,eg,hfl,Y1];rw[zoQ (es2:=[[_,_,_,_,_,_,_,_]]) (Nat.succ_pos 0) (by rw[z0n];show(_+1)*104≤_;omega) (by rw[z0n];show _+1≤maxLen;unfold maxLen;omega)];simp only[vW,seval,d1,hfl,Y1];right;refine⟨by omega,?_⟩;refine z3m (zk2 (k:=2172) (ds:=(z1e (ls.set k ⟨l.c,l.hs++[h]⟩)).flatten.map TV.pv) rfl hst.1 hst.2) ?_;refine z3m (zp8 (x:=12) (j:=0) (d:=2172) (W:=3) (c:=0) (es:=z1e (ls.set k ⟨l.c,l.hs++[h]⟩)) rfl (zpo _) (by decide) rfl (by rw[z0d,List.length_set];rfl)) ?_;refine z2c zg ?_;simp only[vW,seval]
theorem zmI(m:Nat)(c:Cls)(h:Chg)(hc:zd c=true)(hh:ChOk m h)(ha:(z0x c h).2=0):zC (glE m) 27 [scT [⟨c,[]⟩],I 0,chT h] [] (.tuple [scT [⟨c,[h]⟩],I 0]) []:=by
 have hk:=z0V hc;have hlr:z08 ⟨c,[]⟩=true:=by simp[z08,zj,z2d,hc]
 have hR:RightS [⟨c,[]⟩]:=⟨by simp,fun l hl=>by simp at hl;subst hl;exact hlr,fun i j a b hi hj _=>by
  have h1:=(gJ hi).1;have h2:=(gJ hj).1;simp at h1 h2;omega⟩
 exact zoz m [⟨c,[]⟩] (by simp) (fun l hl=>by simp at hl;subst hl;exact⟨hk.1,fun x hx=>by cases hx⟩) (by rw[hR.check]) (fun l hl=>by simp at hl;subst hl;exact⟨by show c.fs.length≤1000;omega,by simp⟩) (k:=0) (l:=⟨c,[]⟩) rfl ⟨hlr,fun x hx=>by cases hx⟩ (by simp) h hh ha
section
variable{m:Nat}{ls:List Ln}{k:Nat}{l:Ln}(hl:ls.length≤1000)(hs:z7X m ls)(he:(z5K ls).2=0)(hk:ls[k]?=some l)
include hl hs he hk
end
end
theorem zfV(g:Sh.Glob)(ls:List Ln)(n:zB)(hl:ls.length≤1000):zC g 32 [scT ls,S (str n)] [] (.tuple [I ((z1i ls n).1:Int),B (z1i ls n).2]) []:=by
 refine za tf_161 ?_;obtain⟨R,hR⟩:∃R,z1i ls n=R:=⟨_,rfl⟩
 rw[hR];unfold scT B;simp only[vW,seval];refine zl (σ:={i:Nat // i≤ls.length∧∀(j:Nat) x,j<i→ls[j]?=some x→(x.c.n==n)=false}) (fun i=>⟨[(1,S (str n)),(2,.ptr 2 0),(6,I (i.1:Int))],[(2,[.pv (.sl 3 (z1e ls))])],[],[]⟩) (fun i=>ls.length-i.1) ⟨0,Nat.zero_le _,fun j x hj=>by omega⟩ ?_ ?_
 ·exact lwA
 rintro⟨i,hi,hno⟩;by_cases hlt:i<ls.length
 ·have d1:(i:Int)<(ls.length:Int):=by omega
  obtain⟨x,ex⟩:∃x,ls[i]?=some x:=⟨_,gE hlt⟩
  have w1:=wS i;cases hp:(x.c.n==n)
  ·simp only[vW,seval,d1,z0d,z1t,ex,lnR,hp,w1];refine zc ⟨i+1,by omega,fun j y hj hy=> ?_⟩ (by show ls.length-(i+1)<ls.length-i;omega) lwA;by_cases hji:j=i
   ·subst hji;rw[ex]at hy;cases hy;exact hp
   ·exact hno j y (by omega) hy
  ·simp only[vW,seval,d1,z0d,z1t,ex,lnR,hp,w1];rw[←hR,zbT ex hp hno]
 ·have d1:¬(i:Int)<(ls.length:Int):=by omega
  simp only[vW,seval,d1,z0d];rw[←hR,zcy (fun x hx=>by
   obtain⟨j,hj⟩:=List.getElem?_of_mem hx;exact hno j x (by have:=(gJ hj).1;omega) hj)]
  rfl
def zii(x:RawL):List PV:=[.v (.int .i64 x.c.n),.sl 4 (rfR x.c.fs),.sl 8 (rhR x.hs)]
def rlR(l:List RawL):List (List PV):=l.map zii
theorem zqG(l:List RawL)(k:Nat):(rlR l)[k]?=(l[k]?).map zii:=by unfold rlR;rw[List.getElem?_map]
theorem zbv(l:List RawL):(rlR l).length=l.length:=by unfold rlR;rw[List.length_map]
theorem ziL(l:List RawL){i:Nat}{x:RawL}(h:l[i]?=some x):(l.take (i+1)).foldl z34 []=z34 ((l.take i).foldl z34 []) x:=by
 rw[List.take_add_one,h];simp only[Option.toList_some,List.foldl_append,List.foldl_cons,List.foldl_nil]
theorem zjF(l:List Ln)(x:Ln):z1e (l++[x])=z1e l++[lnR x]:=by unfold z1e;rw[List.map_append];rfl
theorem zq6{e e':List (List PV)}(h:PWk (.sl 3 e) (.sl 3 e')):Wk (.agg [.pv (.sl 3 e)]) (.agg [.pv (.sl 3 e')]):=z64 rfl fun j a b ha hb=>by
 match j with
 |0=>cases ha;cases hb;exact ziI h
 |j+1=>cases ha
theorem zoH:Wk (.agg [I 0,zu]) (zeR ⟨0,[]⟩):=z64 rfl fun j a b ha hb=>by
 match j with
 |0=>cases ha;cases hb;exact .refl _
 |1=>cases ha;cases hb;exact z2F 4
 |j+2=>cases ha
theorem ziY(g:Sh.Glob):zC g 20 [.agg [I 0,zu]] [] (clT (z0t ⟨0,[]⟩)) []:=
 (z6t g ⟨0,[]⟩ ⟨⟨by decide,by decide⟩,fun r hr=>(by cases hr),by decide⟩).inp rfl fun j c d hc hd=>by
  match j with
  |0=>cases hc;cases hd;exact zoH
  |j+1=>cases hc
theorem z6F(g:Sh.Glob)(l:List RawL)(hx:∀x∈l,RawLOk x)(hlen:l.length≤9223372036854775807):zC g 8 [.pv (.sl 3 (rlR l))] [] (scT (z2V l)) []:=by
 have H0:=ziY g
 suffices h:zC g 8 [.pv (.sl 3 (rlR l))] [] (.agg [.pv (.sl 3 (if(l.take 4).foldl z34 []=[] then [zlT (z0t ⟨0,[]⟩)] else z1e ((l.take 4).foldl z34 [])))]) [] by
  unfold z2V;split
  ·rename_i he;rw[if_pos he]at h;exact h.out (zq6 (zk0 [] _))
  ·rename_i he;rw[if_neg he]at h;exact h
 refine z1I tf_123 ?_;simp only[vW,seval];refine zl (σ:={x':Nat×List Ln // x'.1≤l.length∧x'.1≤4∧x'.2=(l.take x'.1).foldl z34 []}) (fun x'=>⟨[(0,.pv (.sl 3 (rlR l))),(2,.ptr 2 0),(3,.ptr 3 0),(4,I (x'.1.1:Int))],[(2,[.pv (.v (.slice none 0 0))]),(3,[.own 3000 3 (z1e x'.1.2)])],[(3000,(36,3,x'.1.2.length))],[]⟩) (fun x'=>4-x'.1.1) ⟨(0,[]),Nat.zero_le _,Nat.zero_le _,rfl⟩ ?_ ?_
 ·refine ES.Lw.trans ?_ (z4Y (x:=3) (j:=0) (d:=3000) (e:=36) (W:=3) (.inr (by decide)) (by decide) rfl (by simp only[vcA,seval]) rfl);exact z0D rfl
 rintro⟨⟨i,s⟩,hi,hi4,hs⟩;have hi:i≤l.length:=hi;have hi4:i≤4:=hi4;have hs:s=(l.take i).foldl z34 []:=hs;have htl:=List.length_take_le i l;obtain⟨hg,hgl⟩:=z7m (l.take i) [] zcE (by simp;omega);rw[←hs]at hg hgl;simp only[List.length_nil,Nat.zero_add]at hgl;by_cases hlt:i<l.length∧i<4
 ·obtain⟨hlt,hl4⟩:=hlt;have d1:(i:Int)<(l.length:Int):=by omega
  have d2:(i:Int)<4:=by omega
  obtain⟨x,ex⟩:∃r,l[i]?=some r:=⟨_,gE hlt⟩
  have w1:=wS i;have HL:=zjE g x (hx x (gM ex));have HF:=zfV g s (z2y x).c.n (by omega);have hst:=ziL l ex;rw[←hs]at hst;unfold z34 at hst;generalize z2y x=y at*;generalize z1i s y.c.n=R at*;obtain⟨p,t⟩:=R;unfold rlC at HL;unfold lnC at HL;unfold scT B at HF;simp only[vW,seval,d1,d2,zbv,zqG,ex,zii];refine z8 HL ?_;refine z8 HF ?_;cases t
  ·simp only[Bool.false_eq_true,if_false]at hst;simp only[vW,seval,w1,z0d];refine⟨⟨by omega,by unfold maxLen;omega⟩,zc ⟨(i+1,s++[y]),hlt,hl4,hst.symm⟩ (by show 4-(i+1)<4-i;omega) ?_⟩;simp only[zjF,List.length_append,List.length_cons,List.length_nil,lnR];exact lwA
  ·simp only[if_true]at hst;simp only[vW,seval,w1];exact zc ⟨(i+1,s),hlt,hl4,hst.symm⟩ (by show 4-(i+1)<4-i;omega) lwA
 ·have he:(l.take 4).foldl z34 []=s:=by
   rw[hs];by_cases h4:i=4
   ·rw[h4]
   ·rw[List.take_of_length_le (by omega),List.take_of_length_le (by omega)]
  rw[he];have hdd:((i:Int)<(l.length:Int)∧¬(i:Int)<4)∨¬(i:Int)<(l.length:Int):=by omega
  unfold clT zu at H0;by_cases h0:s=[]
  ·rw[if_pos h0];subst h0;rcases hdd with⟨d1,d2⟩|d1
   ·simp only[vW,seval,d1,d2,zbv,z0d];refine z8 H0 ?_;rfl
   ·simp only[vW,seval,d1,zbv,z0d];refine z8 H0 ?_;rfl
  ·rw[if_neg h0];have d3:¬(s.length:Int)=0:=by have:=List.length_pos_iff.2 h0;omega
   rcases hdd with⟨d1,d2⟩|d1
   ·simp only[vW,seval,d1,d2,d3,zbv,z0d]
   ·simp only[vW,seval,d1,d3,zbv,z0d]
end Go.Proofs.YtbkgnekfigknhaaGreatDoor
end

section
namespace Go.Proofs.YtbkgnekfigknhaaGreatDoor
open Go.ChangeShapes Go.WideShapes Go.ChangeAt Go.RowKit Go.Lib Go.Mor Go.Deep Go.Joins
open Go.Sh (RelT RelV TV PV SCalls Env MSim z0o zy z23 Low)
open Go.Proofs.YtbkgnekfigknhaaGreatDoor.OpR
section
variable{H:Type}{enc:TypeId×Value→H}
theorem zcN{α:Type}(R:α→List PV)(Q:α→Prop){t e:TypeId}{Wd:Nat}(ht:Tryz.prog.underlying t=some (.slice e))(hC:Tryz.prog.cellsOf e=Wd)(hW:0<Wd)(hR:∀x,(R x).length=Wd)
  {W:World} {base:Nat} {spare:Nat→Bool} {held:Bool} {fuel:Nat} {c:Value} {y:DataW H×List MemPlace}
  (hel:∀n cs y,cs.length=Wd→DataW.trod enc Tryz.prog W base spare held n e cs=some y→∃x:α,Q x∧∀(j:Nat) q v,(R x)[j]?=some q→cs[j]?=some v→RelV W (z0I W).K q v∧Go.Sh.one v)
  (h:DataW.trod enc Tryz.prog W base spare held fuel t [c]=some y):∃l:List α,(∀x∈l,Q x)∧l.length≤9223372036854775807∧RelV W (z0I W).K (.sl Wd (l.map R)) c:=by
 rcases open_slice ht h with h0|⟨a,len,cap,m,n,D,Pl,hcs,hb,hl,hm,hmm,hx,hi⟩
 ·obtain rfl:c=.slice none 0 0:=by simpa using h0.1
  exact⟨[],by simp,by simp,.sl Wd [] 0 0 0 none (fun _ _=>undef) (by simp) (by simp) (by simp) (by simp) (by simp) (by simp)⟩
 obtain rfl:c=.slice (some a) len cap:=by simpa using hcs
 rw[hC]at hi;have key:∀i,i<len→∃x:α,Q x∧a=⟨a.block,a.off,none⟩∧∀(j:Nat) q,(R x)[j]?=some q→∃v,W.cell? ⟨a.block,a.off+i*Wd+j,none⟩=some v∧RelV W (z0I W).K q v∧Go.Sh.one v:=by
  intro i hlt;obtain⟨cs',hc,ht'⟩:=hi i (by rw[hmm];split<;>omega);obtain⟨_,hcl,hat⟩:=World.cells?_some hc;obtain⟨cs0,hc0,_⟩:=hi 0 (by rw[hmm];split<;>omega);obtain⟨_,hcl0,hat0⟩:=World.cells?_some hc0;have h00:=hat0 0 hW;rw[gE (by omega)]at h00;have ha:a=⟨a.block,a.off,none⟩:=(z72 (k:=0) (by simpa [Addr.add]using h00)).1;have hadd:∀k,a.add k=⟨a.block,a.off+k,none⟩:=fun k=>(z72 (k:=k) (by simpa [Addr.add]using h00)).2;obtain⟨x,hq,hrel⟩:=hel n cs' _ hcl ht';refine⟨x,hq,ha,fun j q hj=> ?_⟩;have hjl:j<Wd:=by have:=(gJ hj).1;rwa [hR]at this
  have hcell:=hat j hjl;have hv:cs'[j]?=some (cs'[j]'(by omega)):=gE (by omega);obtain⟨h1,h2⟩:=hrel j q _ hj hv;refine⟨_,?_,h1,h2⟩;rw[hv,Go.Deep.add_add,hadd]at hcell;rw[←Nat.add_assoc]at hcell;exact hcell
 obtain⟨l,hlen,hq⟩:=zgq key;refine⟨l,fun r hr=> ?_,by unfold maxLen at hm;omega,?_⟩
 ·obtain⟨i,hi⟩:=List.getElem?_of_mem hr;exact(hq i r hi).1
 have hL:(l.map R).length=len:=by rw[List.length_map,hlen]
 rw[←hL];have cell:∀(i j:Nat) cs q,(l.map R)[i]?=some cs→cs[j]?=some q→∃v,W.cell? ⟨a.block,a.off+i*Wd+j,none⟩=some v∧RelV W (z0I W).K q v∧Go.Sh.one v:=by
  intro i j cs q h1 h2;rw[List.getElem?_map,Option.map_eq_some_iff]at h1;obtain⟨r,hr,rfl⟩:=h1;exact(hq i r hr).2.2 j q h2
 refine .sl Wd (l.map R) a.block a.off cap (some a) (fun i j=>(W.cell? ⟨a.block,a.off+i*Wd+j,none⟩).getD undef) (fun hne=> ?_) (by omega) hm (fun cs hcs=> ?_) (fun i j cs q h1 h2=> ?_) (fun i j cs q h1 h2=> ?_)
 ·obtain⟨r,hr⟩:∃r,l[0]?=some r:=by
   cases l with
   |nil=>exact absurd rfl hne
   |cons r q=>exact⟨r,rfl⟩
  rw[(hq 0 r hr).2.1]
 ·obtain⟨r,_,rfl⟩:=List.mem_map.1 hcs;exact hR r
 ·obtain⟨u,hu,_,ho⟩:=cell i j cs q h1 h2;rw[hu];exact⟨z18 (a:=⟨a.block,a.off+i*Wd+j,none⟩) hu,rfl,ho⟩
 ·obtain⟨u,hu,hr,ho⟩:=cell i j cs q h1 h2;rw[hu];exact hr
theorem z3q{W:World}{K:Nat→Nat→Prop}(x:Value)(h:Go.Sh.one x):RelV W K (.v x) x∧Go.Sh.one x:=⟨.v x,h⟩
theorem zm5{W:World}{base:Nat}{spare:Nat→Bool}{held:Bool}{fuel:Nat}{c:Value}{y:DataW H×List MemPlace}(h:DataW.trod enc Tryz.prog W base spare held fuel 67 [c]=some y):
  ∃l:List RawH,(∀x∈l,RawHOk x)∧l.length≤9223372036854775807∧RelV W (z0I W).K (.sl 8 (rhR l)) c:=by
 refine zcN zic RawHOk Tryz.underlying67 (by kernel_rfl) (by decide) (fun _=>rfl) (fun n cs y hl hf=> ?_) h;obtain⟨c0,c1,c2,c3,c4,c5,c6,c7,rfl⟩:=zqB hl;obtain⟨xs,n',_,_,hlen,hxl,hf⟩:=DataW.trod_struct Tryz.underlying78 hf;obtain⟨x0,x1,x2,x3,x4,x5,x6,rfl⟩:=zqA hxl;have k0:Tryz.prog.cellsOf 3=1:=by kernel_rfl
 have k1:Tryz.prog.cellsOf 49=2:=by kernel_rfl
 have h0:DataW.trod enc Tryz.prog W base spare held n' 3 [c0]=some x0:=by have:=hf 0 _ rfl;simpa [k0,Value.cells]using this
 have h1:DataW.trod enc Tryz.prog W base spare held n' 3 [c1]=some x1:=by have:=hf 1 _ rfl;simpa [k0,Value.cells]using this
 have h2:DataW.trod enc Tryz.prog W base spare held n' 3 [c2]=some x2:=by have:=hf 2 _ rfl;simpa [k0,Value.cells]using this
 have h3:DataW.trod enc Tryz.prog W base spare held n' 3 [c3]=some x3:=by have:=hf 3 _ rfl;simpa [k0,Value.cells]using this
 have h4:DataW.trod enc Tryz.prog W base spare held n' 49 [c4,c5]=some x4:=by have:=hf 4 _ rfl;simpa [k1,Value.cells]using this
 have h5:DataW.trod enc Tryz.prog W base spare held n' 3 [c6]=some x5:=by have:=hf 5 _ rfl;simpa [k0,Value.cells]using this
 have h6:DataW.trod enc Tryz.prog W base spare held n' 3 [c7]=some x6:=by have:=hf 6 _ rfl;simpa [k0,Value.cells]using this
 obtain⟨z0,e0,_,w0⟩:=DataW.trod_int Tryz.underlying3 h0;obtain⟨z1,e1,_,w1⟩:=DataW.trod_int Tryz.underlying3 h1;obtain⟨z2,e2,_,w2⟩:=DataW.trod_int Tryz.underlying3 h2;obtain⟨z3,e3,_,w3⟩:=DataW.trod_int Tryz.underlying3 h3;obtain⟨t,e4,w4,w4'⟩:=zm7 h4;obtain⟨z5,e5,_,w5⟩:=DataW.trod_int Tryz.underlying3 h5;obtain⟨z6,e6,_,w6⟩:=DataW.trod_int Tryz.underlying3 h6;simp at e0 e1 e2 e3 e4 e5 e6;obtain⟨rfl,rfl⟩:=e4;subst e0 e1 e2 e3 e5 e6;refine⟨⟨z0,z1,z2,z3,t,z5,z6⟩,⟨bounds_i64 w0,bounds_i64 w1,bounds_i64 w2,bounds_i64 w3,w4,w4',bounds_i64 w5,bounds_i64 w6⟩,fun j q u hq hu=> ?_⟩
 match j with
 |0=>cases hq;cases hu;exact z3q _ rfl
 |1=>cases hq;cases hu;exact z3q _ rfl
 |2=>cases hq;cases hu;exact z3q _ rfl
 |3=>cases hq;cases hu;exact z3q _ rfl
 |4=>cases hq;cases hu;exact z3q _ rfl
 |5=>cases hq;cases hu;exact z3q _ rfl
 |6=>cases hq;cases hu;exact z3q _ rfl
 |7=>cases hq;cases hu;exact z3q _ rfl
 |j+8=>cases hq
theorem zm6{W:World}{base:Nat}{spare:Nat→Bool}{held:Bool}{fuel:Nat}{c:Value}{y:DataW H×List MemPlace}(h:DataW.trod enc Tryz.prog W base spare held fuel 22 [c]=some y):
  ∃l:List RawL,(∀x∈l,RawLOk x)∧l.length≤9223372036854775807∧RelV W (z0I W).K (.sl 3 (rlR l)) c:=by
 refine zcN zii RawLOk Tryz.underlying22 (by kernel_rfl) (by decide) (fun _=>rfl) (fun n cs y hl hf=> ?_) h;obtain⟨c0,c1,c2,rfl⟩:=zpm hl;obtain⟨xs,n',_,_,hlen,hxl,hf⟩:=DataW.trod_struct Tryz.underlying91 hf;obtain⟨x0,x1,rfl⟩:=zdv hxl;have k0:Tryz.prog.cellsOf 65=2:=by kernel_rfl
 have k1:Tryz.prog.cellsOf 67=1:=by kernel_rfl
 have k2:Tryz.prog.cellsOf 3=1:=by kernel_rfl
 have k3:Tryz.prog.cellsOf 63=1:=by kernel_rfl
 have h0:DataW.trod enc Tryz.prog W base spare held n' 65 [c0,c1]=some x0:=by have:=hf 0 _ rfl;simpa [k0,Value.cells]using this
 have h1:DataW.trod enc Tryz.prog W base spare held n' 67 [c2]=some x1:=by have:=hf 1 _ rfl;simpa [k1,Value.cells]using this
 obtain⟨ys,n2,_,_,hlen2,hyl,hf2⟩:=DataW.trod_struct Tryz.underlying65 h0;obtain⟨y0,y1,rfl⟩:=zdv hyl;have g0:DataW.trod enc Tryz.prog W base spare held n2 3 [c0]=some y0:=by have:=hf2 0 _ rfl;simpa [k2,Value.cells]using this
 have g1:DataW.trod enc Tryz.prog W base spare held n2 63 [c1]=some y1:=by have:=hf2 1 _ rfl;simpa [k3,Value.cells]using this
 obtain⟨z0,e0,_,w0⟩:=DataW.trod_int Tryz.underlying3 g0;simp at e0;subst e0;obtain⟨fs,f1,f2,f3⟩:=zm4 g1;obtain⟨hs,s1,s2,s3⟩:=zm5 h1;refine⟨⟨⟨z0,fs⟩,hs⟩,⟨⟨bounds_i64 w0,f1,f2⟩,s1,s2⟩,fun j q u hq hu=> ?_⟩
 match j with
 |0=>cases hq;cases hu;exact z3q _ rfl
 |1=>cases hq;cases hu;exact⟨f3,by cases f3;rfl⟩
 |2=>cases hq;cases hu;exact⟨s3,by cases s3;rfl⟩
 |j+3=>cases hq
theorem z7w{W:World}{b0 base:Nat}{spare:Nat→Bool}{held:Bool}{v:Value}{d:DataW H}{p:List MemPlace}(hok:Value.okWide Tryz.prog W .any b0 22 v)(h:DataW.Trod enc Tryz.prog W base spare held 22 v d p):
  ∃l:List RawL,(∀x∈l,RawLOk x)∧l.length≤9223372036854775807∧∀r,RelT W (z0I W) r (.pv (.sl 3 (rlR l))) v:=by
 obtain⟨a0,len,cap,rfl⟩:=okWide_slice Tryz.underlying22 hok;obtain⟨fuel,hf⟩:=h;obtain⟨l,h1,h2,h3⟩:=zm6 (c:=.slice a0 len cap) hf;exact⟨l,h1,h2,fun r=> .pv h3⟩
end
end Go.Proofs.YtbkgnekfigknhaaGreatDoor
end

section
namespace Go.Proofs.YtbkgnekfigknhaaGreatDoor
open Go.ChangeShapes Go.WideShapes Go.ChangeAt Go.RowKit Go.Lib Go.Mor Go.Deep
open Go.ChangeMaps (open_string shut_string)
abbrev zak:List (String×DataW Unit):=[("math/bits.deBruijn32tab",Rows.laid_math_bits_deBruijn32tab),("math/bits.deBruijn64tab",Rows.laid_math_bits_deBruijn64tab),("internal/strconv.uint64pow10",Rows.laid_internal_strconv_uint64pow10),("unicode/utf8.acceptRanges",Rows.laid_unicode_utf8_acceptRanges),("strconv.ErrRange",Rows.laid_strconv_ErrRange),("strconv.ErrSyntax",Rows.laid_strconv_ErrSyntax),("unicode/utf8.first",Rows.laid_unicode_utf8_first)]
theorem zpA:(Rows.laid_internal_strconv_uint64pow10:DataW Unit)=Lib.tabData .u64 Lib.pow10Tab:=by kernel_rfl
theorem zqC{W:World}(h:W.ShapedOpen Tryz.prog):∃k,W.cell? ⟨2,0,none⟩=some (.int .i64 k):=
 cell_of_shapedOpen_int (zero:= #[.int .i64 0]) (t:=3) h (of_decide_eq_true (by kernel_rfl)) (by kernel_rfl) rfl (by kernel_rfl) (by kernel_rfl) Tryz.underlying3
theorem zpV: "*" ++ "errors.errorString" = "*errors.errorString" :=by decide
theorem zpI(u:TypeId)(h:Tryz.prog.typeName? 3 u=some "*errors.errorString"):u=311:=
 typeName_ptr_named (nm:= "errors.errorString") (by rw[zpV];kernel_rfl) (by kernel_rfl) (by decide) u (by rw[zpV];exact h)
theorem z4k{W:World}(hL:laidMetH Tryz.prog zak W)(hsh:W.ShapedOpen Tryz.prog):(glE W.heap.size).G W:=by
 have hL':laidMet Tryz.prog zak W:=hL;have hU:=zlC hL' (.tail _ (.tail _ (.tail _ (.tail _ (.tail _ (.tail _ (.head _))))))) (.tail _ (.tail _ (.tail _ (.head _))));have hv:=zqw hsh;have hT:GlobT W:=⟨Lib.tabIs_of_head z9R (t:=294) (by kernel_rfl) Tryz.underlying294 Tryz.underlying272 (by kernel_rfl) (by kernel_rfl) (by have h:=hL'.tail.tail;rw[zpA]at h;exact h),zqC hsh⟩
 obtain⟨p0,p1,_,_,_,_,_,_,pv0,pv1,_⟩:=laid_sentinels2 (g0:=5) (g1:=4) (ti:=210) (tp:=311) (te:=313) (ts:=9) hL'.tail.tail.tail.tail (by kernel_rfl) (by kernel_rfl) (by kernel_rfl) (by kernel_rfl)
  Tryz.underlying210 zpI Tryz.underlying311 Tryz.underlying313 rfl rfl Tryz.underlying9 (by kernel_rfl) (by kernel_rfl)
 have hE:GlobE W:=by
  refine⟨⟨311,.pointer (some p1),?_⟩,⟨311,.pointer (some p0),?_⟩⟩
  ·have:=World.var?_cell (g:=4) (by kernel_rfl) pv1 0;simpa using this
  ·have:=World.var?_cell (g:=5) (by kernel_rfl) pv0 0;simpa using this
 have hN:GlobN0 W.heap.size W:=⟨hU,Nat.le_refl _,hv⟩
 exact(⟨⟨hN,hT⟩,hE⟩:GlobNE W.heap.size W)
theorem z6x(os:Os)(args:Array Value):laidMet Tryz.prog zak ((z1W os).forCall (fun _ _=>0) ⟨#[],args,[]⟩).memory:=
 (LaidIn.of_run [6,7,3,1,5,N0,4,N0+1,0] 8 (by kernel_rfl) (by kernel_rfl) (by kernel_rfl) (by kernel_rfl)).met
end Go.Proofs.YtbkgnekfigknhaaGreatDoor
end

section
namespace Go.Proofs.YtbkgnekfigknhaaGreatDoor
open Go
theorem zqD:Tryz.prog.funcs.any Func.goes=false:=by kernel_rfl
theorem zo5(f:FuncId):Tryz.prog.goes f=false:=by
 have h:=zqD;have key:∀g:Nat,(Tryz.prog.funcs[g]?).any Func.goes=false:=fun g=>by
  cases hg:Tryz.prog.funcs[g]? with
  |none=>rfl
  |some fn=>
   obtain⟨hl,rfl⟩:=gA hg;rw[Array.any_eq_false]at h;simpa using h g hl
 unfold Program.goes;rw[h,Bool.and_false,Bool.or_false];rw[←Bool.not_eq_true];intro hx;obtain⟨g,_,hg⟩:=by simpa using hx
 have:=key g;simp_all
theorem zbW(c:OpenClaim)(hs:c.start=.entering):false=c.goesBy Tryz.prog:=by
 unfold OpenClaim.goesBy Program.goesAt Program.goesFrom;rw[hs];cases Tryz.prog.funcNamed c.func with
 |none=>rfl
 |some f=>simp[zo5 f]
end Go.Proofs.YtbkgnekfigknhaaGreatDoor
end

section
namespace Go.Mor
open Go
theorem z5x{c:Cls}(h:zd c=true){f:Fld}(hf:f∈c.fs):zh f.t=true:=by
 have:=((z0T c).1 h).2.2.1 f hf;unfold zD at this
 grind
theorem zev{c:Cls}(h:zd c=true)(l:List Int){many:Int}(hm:many≤100000):FitC c (z2z c.fs l many):=
 ⟨h,z7s ..,fun i f v hf hv=>by
  rw[zcK hf]at hv;cases hv;exact(zhq f.t _ many (z5x h (gM hf)) hm).1⟩
theorem z3j(x:Int){n:Nat}(h:0<n):∃k:Nat,pick x (n:Int)=(k:Int)∧k<n:=by
 have:=zE x (n:Int) (by omega);obtain⟨k,hk⟩:=Int.eq_ofNat_of_zero_le this.1;exact⟨k,hk,by omega⟩
end Go.Mor
end

section
namespace Go.Sh.Cd11
open Go Go.Sh
abbrev gQ(a:GA):Prop:=gT Go.Proofs.Tryz.prog a
theorem gK{a:GA}(h:gQ a:=by unfold gQ gT;kernel_rfl):gQ a:=h
theorem tf_182:gQ ⟨63,32,[(29,1)],[],[[6],[10013],[1000002,14],[0,6,14],[],[18021],[7,22025],[8009,26029],[1002,15017,30],[6,30031],[1002,15017]],[.tmp 6],false⟩:=gK
theorem tf_181:gQ ⟨65,32,[(29,1)],[],[[6],[10013],[1000002,14],[0,6,14],[],[18021],[7,22025],[8009,26029],[1002,15017,30],[6,30031],[1002,15017]],[.tmp 6],false⟩:=gK
noncomputable def funcs:Nat→Option SFunc
 |_=>none
end Go.Sh.Cd11
end

section
namespace Go.Proofs.YtbkgnekfigknhaaGreatDoor
open Go Go.RowKit Go.Mor Go.Sh Go.Sh.Cd1 Go.Sh.Cd7 Go.Sh.Cd10 Go.Sh.Cd11
def z2U{α:Type}(p:α→α→Bool):List α→List α→Bool
 |[],[]=>true
 |x::l,y::m=>p x y&&z2U p l m
 |_,_=>false
theorem z8S{α:Type}{p:α→α→Bool}:∀{a b:List α},a.length≠b.length→z2U p a b=false
 |[],[],h=>absurd rfl h
 |[],_::_,_=>rfl
 |_::_,[],_=>rfl
 |x::l,y::m,h=>by
  unfold z2U;rw[z8S (a:=l) (b:=m) (fun e=>h (by simp[e])),Bool.and_false]
theorem zbx{α:Type}{p:α→α→Bool}{a b:List α}{i:Nat}{x y:α}(hx:a[i]?=some x)(hy:b[i]?=some y):z2U p (a.drop i) (b.drop i)=(p x y&&z2U p (a.drop (i+1)) (b.drop (i+1))):=by
 obtain⟨h1,rfl⟩:=gJ hx;obtain⟨h2,rfl⟩:=gJ hy;rw[List.drop_eq_getElem_cons h1,List.drop_eq_getElem_cons h2];rfl
theorem znM(g:Sh.Glob)(a b:List Chg)(ha:a.length≤1000):zC g 65 [.pv (.sl 8 (z0P a)),.pv (.sl 8 (z0P b)),.pv (.v (.func (.func 66) #[] #[]))] [] (B (z2U z0i a b)) []:=by
 refine za tf_181 ?_;obtain⟨R,hR⟩:∃R,z2U z0i a b=R:=⟨_,rfl⟩
 rw[hR];unfold B;by_cases hlen:a.length=b.length
 ·have d0:(a.length:Int)=(b.length:Int):=by omega
  simp only[vW,seval,d0,z0n];refine zl (σ:={i:Nat // i≤a.length∧z2U z0i (a.drop i) (b.drop i)=R}) (fun i=>⟨[(1,.pv (.sl 8 (z0P b))),(2,.pv (.v (.func (.func 66) #[] #[]))),(15,.pv (.sl 8 (z0P a))),(16,I (b.length:Int)),(17,I (i.1:Int))],[],[],[]⟩) (fun i=>a.length-i.1) ⟨0,Nat.zero_le _,hR⟩ ?_ ?_
  ·exact lwA
  rintro⟨i,hi,hT⟩;by_cases hlt:i<a.length
  ·have d1:(i:Int)<(b.length:Int):=by omega
   obtain⟨x,ex⟩:∃x,a[i]?=some x:=⟨_,gE hlt⟩
   obtain⟨y,ey⟩:∃y,b[i]?=some y:=⟨_,gE (by omega)⟩
   have HS:=zin g x y;have w1:=wS i;rw[zbx ex ey]at hT;unfold B at HS;unfold chT at HS;simp only[vW,seval,d1,z2o,ex,ey,chR];(with_reducible apply zx);exact kv;exact HS;rfl;exact kv;cases hp:z0i x y
   ·simp only[vW,seval];rw[←hT,hp];rfl
   ·simp only[vW,seval,w1];rw[hp,Bool.true_and]at hT;exact zc ⟨i+1,by omega,hT⟩ (by show a.length-(i+1)<a.length-i;omega) lwA
  ·have d1:¬(i:Int)<(b.length:Int):=by omega
   rw[List.drop_eq_nil_of_le (by omega),List.drop_eq_nil_of_le (by omega)]at hT;simp only[vW,seval,d1];rw[←hT];rfl
 ·have d0:¬(a.length:Int)=(b.length:Int):=by omega
  simp only[vW,seval,d0,z0n];rw[←hR,z8S hlen]
def z4t(a b:Ln):Bool:=z49 a.c b.c&&z2U z0i a.hs b.hs
theorem zms(g:Sh.Glob)(a b:Ln)(h1:a.c.fs.length≤1000)(h2:b.c.fs.length≤1000)(h3:a.hs.length≤1000):zC g 64 [.agg (lnC a),.agg (lnC b)] [] (B (z4t a b)) []:=by
 have HC:=z82 g a.c b.c (by omega) (by omega);have HE:=znM g a.hs b.hs h3;refine za tf_169 ?_;unfold z4t;unfold lnC clT B at*;simp only[vW,seval];refine z8 HC ?_;cases hc:z49 a.c b.c
 ·simp only[vW,seval]
 ·simp only[vW,seval];refine z8 HE ?_;trivial
theorem znN(g:Sh.Glob)(a b:List Ln)(ha:a.length≤1000)(h1:∀l∈a,l.c.fs.length≤1000∧l.hs.length≤1000)(h2:∀l∈b,l.c.fs.length≤1000):zC g 63 [.pv (.sl 3 (z1e a)),.pv (.sl 3 (z1e b)),.pv (.v (.func (.func 64) #[] #[]))] [] (B (z2U z4t a b)) []:=by
 refine za tf_182 ?_;obtain⟨R,hR⟩:∃R,z2U z4t a b=R:=⟨_,rfl⟩
 rw[hR];unfold B;by_cases hlen:a.length=b.length
 ·have d0:(a.length:Int)=(b.length:Int):=by omega
  simp only[vW,seval,d0,z0d];refine zl (σ:={i:Nat // i≤a.length∧z2U z4t (a.drop i) (b.drop i)=R}) (fun i=>⟨[(1,.pv (.sl 3 (z1e b))),(2,.pv (.v (.func (.func 64) #[] #[]))),(15,.pv (.sl 3 (z1e a))),(16,I (b.length:Int)),(17,I (i.1:Int))],[],[],[]⟩) (fun i=>a.length-i.1) ⟨0,Nat.zero_le _,hR⟩ ?_ ?_
  ·exact lwA
  rintro⟨i,hi,hT⟩;by_cases hlt:i<a.length
  ·have d1:(i:Int)<(b.length:Int):=by omega
   obtain⟨x,ex⟩:∃x,a[i]?=some x:=⟨_,gE hlt⟩
   obtain⟨y,ey⟩:∃y,b[i]?=some y:=⟨_,gE (by omega)⟩
   have HS:=zms g x y (h1 x (gM ex)).1 (h2 y (gM ey)) (h1 x (gM ex)).2;have w1:=wS i;rw[zbx ex ey]at hT;unfold B at HS;unfold lnC at HS;simp only[vW,seval,d1,z1t,ex,ey,lnR];(with_reducible apply zx);exact kv;exact HS;rfl;exact kv;cases hp:z4t x y
   ·simp only[vW,seval];rw[←hT,hp];rfl
   ·simp only[vW,seval,w1];rw[hp,Bool.true_and]at hT;exact zc ⟨i+1,by omega,hT⟩ (by show a.length-(i+1)<a.length-i;omega) lwA
  ·have d1:¬(i:Int)<(b.length:Int):=by omega
   rw[List.drop_eq_nil_of_le (by omega),List.drop_eq_nil_of_le (by omega)]at hT;simp only[vW,seval,d1];rw[←hT];rfl
 ·have d0:¬(a.length:Int)=(b.length:Int):=by omega
  simp only[vW,seval,d0,z0d];rw[←hR,z8S hlen]
theorem zf3(g:Sh.Glob)(a b:List Ln)(ha:a.length≤1000)(h1:∀l∈a,l.c.fs.length≤1000∧l.hs.length≤1000)(h2:∀l∈b,l.c.fs.length≤1000):zC g 30 [scT a,scT b] [] (B (z2U z4t a b)) []:=by
 have HE:=znN g a b ha h1 h2;refine za tf_168 ?_;unfold scT B at*;simp only[vW,seval];exact ze HE
end Go.Proofs.YtbkgnekfigknhaaGreatDoor
end
