/- Merged texts: Ya9 Zn1 Cd11 Yb1 Zn5 Yb2 Yd5 Yd7. No statement of the program is proved here. -/
import Derived.Test.YthinnldeogflgaaGreatDoorQ33
set_option linter.unusedSimpArgs false
set_option linter.unusedVariables false
set_option maxRecDepth 100000
set_option maxHeartbeats 8000000
section
namespace Go.Proofs.YthinnldeogflgaaGreatDoor
open Go Go.RowKit Go.Mor Go.Sh Go.Sh.Cd1 Go.Sh.Cd7
section
open Go.Sh.Cd10
def z26{α:Type}(es:List (List α))(z:List α)(k:Nat):List (List α):=es.take k++List.replicate (es.length-k) z
theorem zaA{α:Type}{es:List (List α)}{z:List α}{k:Nat}(h:k≤es.length):(z26 es z k).length=es.length:=by unfold z26;rw[List.length_append,List.length_take,List.length_replicate];omega
theorem zgu{α:Type}{es:List (List α)}{z:List α}:z26 es z es.length=es:=by unfold z26;simp
theorem zaB{α:Type}{es:List (List α)}{z:List α}{k W:Nat}(hW:∀cs∈es,cs.length=W)(hz:z.length=W):∀cs∈z26 es z k,cs.length=W:=fun cs h=>by
 rcases List.mem_append.1 h with h|h
 ·exact hW _ (List.mem_of_mem_take h)
 ·rw[(List.mem_replicate.1 h).2];exact hz
theorem zgv{α:Type}{es:List (List α)}{z r:List α}{k W:Nat}(hW:∀cs∈es,cs.length=W)(hz:z.length=W)(hk:es[k]?=some r):List.take (k*W) (z26 es z k).flatten++r++List.drop (k*W+W) (z26 es z k).flatten=(z26 es z (k+1)).flatten:=by
 have hl:=(gJ hk).1;rw[z5N (x:=r) (hW r (gM hk)) (zaB hW hz) (by rw[zaA (by omega)];exact hl)];congr 1;unfold z26;rw[List.take_add_one,hk,List.set_append,List.length_take,if_neg (by omega),show k-min k es.length=0 by omega,show es.length-k=es.length-(k+1)+1 by omega,List.replicate_succ,List.set_cons_zero,List.append_assoc];rfl
theorem z6I{α:Type}{W:Nat}:∀{es:List (List α)},(∀cs∈es,cs.length=W)→es.flatten.length=es.length*W
 |[],_=>by simp
 |cs::es,h=>by
  rw[List.flatten_cons,List.length_append,z6I (es:=es) (fun x hx=>h x (List.mem_cons_of_mem _ hx)),h cs (List.mem_cons_self ..),List.length_cons,Nat.add_mul];omega
theorem z61{α:Type}{W:Nat}:∀{es:List (List α)},(∀cs∈es,cs.length=W)→∀{i j:Nat} {cs:List α} {c:α},es[i]?=some cs→cs[j]?=some c→es.flatten[i*W+j]?=some c
 |[],_,i,j,cs,c,h,_=>by simp at h
 |x::es,hW,i,j,cs,c,h,hc=>by
  have hx:=hW x (List.mem_cons_self ..);cases i with
  |zero=>
   rw[List.getElem?_cons_zero]at h;cases h;have:=(gJ hc).1;rw[Nat.zero_mul,Nat.zero_add,List.flatten_cons,List.getElem?_append_left this];exact hc
  |succ i=>
   have ih:=z61 (es:=es) (fun y hy=>hW y (List.mem_cons_of_mem _ hy)) (i:=i) (by simpa using h) hc;rw[List.flatten_cons,List.getElem?_append_right (by rw[hx,Nat.add_mul];omega),show(i+1)*W+j-x.length=i*W+j by rw[hx,Nat.add_mul];omega];exact ih
def WkL(a b:List TV):Prop:=a.length=b.length∧∀(j:Nat) c d,a[j]?=some c→b[j]?=some d→Wk c d
theorem WkL.app{a b c d:List TV}(h:WkL a b)(h':WkL c d):WkL (a++c) (b++d):=⟨by rw[List.length_append,List.length_append,h.1,h'.1],fun j x y hx hy=>by
 rcases Nat.lt_or_ge j a.length with hj|hj
 ·rw[List.getElem?_append_left hj]at hx;rw[List.getElem?_append_left (by rw[←h.1];exact hj)]at hy;exact h.2 j x y hx hy
 ·rw[List.getElem?_append_right hj]at hx;rw[List.getElem?_append_right (by rw[←h.1];exact hj),←h.1]at hy;exact h'.2 _ x y hx hy⟩
theorem WkL.flat:∀{A B:List (List TV)},A.length=B.length→(∀(i:Nat) a b,A[i]?=some a→B[i]?=some b→WkL a b)→WkL A.flatten B.flatten
 |[],[],_,_=>⟨rfl,fun j c d h=>by cases h⟩
 |[],b::B,h,_=>by cases h
 |a::A,[],h,_=>by cases h
 |a::A,b::B,h,H=>by
  rw[List.flatten_cons,List.flatten_cons];exact(H 0 a b rfl rfl).app (WkL.flat (by simpa using h) fun i x y hx hy=>H (i+1) x y hx hy)
def Stab(cs:List TV):Prop:=∀c∈cs,(∃p,c=.pv p)∨∃W es,c=.tsl W es
theorem Stab.tail{c:TV}{cs:List TV}(h:Stab (c::cs)):Stab cs:=fun x hx=>h x (List.mem_cons_of_mem _ hx)
theorem Stab.fgt:∀{cs:List TV},Stab cs→∀ids,List.map (fgt3 ids) cs=cs
 |[],_,_=>rfl
 |c::cs,h,ids=>by
  rw[List.map_cons,Stab.fgt h.tail ids];rcases h c (List.mem_cons_self ..)with⟨p,rfl⟩|⟨W,es,rfl⟩<;>rfl
theorem Stab.ids:∀{cs:List TV},Stab cs→cs.flatMap TV.ids1=[]
 |[],_=>rfl
 |c::cs,h=>by
  rw[List.flatMap_cons,Stab.ids h.tail];rcases h c (List.mem_cons_self ..)with⟨p,rfl⟩|⟨W,es,rfl⟩<;>rfl
theorem Stab.ren:∀{cs:List TV},Stab cs→∀ρ,seqO (TV.ren1 ρ) cs=some cs
 |[],_,_=>rfl
 |c::cs,h,ρ=>by
  have ih:=Stab.ren h.tail ρ;rcases h c (List.mem_cons_self ..)with⟨p,rfl⟩|⟨W,es,rfl⟩<;>simp[seqO,ih,TV.ren1,TV.renF,TV.ren0]
theorem Stab.flat{A:List (List TV)}(h:∀a∈A,Stab a):Stab A.flatten:=fun c hc=>by
 obtain⟨a,ha,hca⟩:=List.mem_flatten.1 hc;exact h a ha c hca
def lnT(l:Ln):List TV:=[S (str l.c.n),.pv (.sl 4 (flR l.c.fs)),tgT 8 (z0I l.hs)]
theorem z68(ls:List Ln):∀cs∈ls.map lnT,cs.length=3:=fun cs h=>by
 obtain⟨l,_,rfl⟩:=List.mem_map.1 h;rfl
theorem ziH(l:Ln):Stab (lnT l):=fun c hc=>by
 unfold lnT at hc;simp only[List.mem_cons,List.not_mem_nil,or_false]at hc;rcases hc with rfl|rfl|rfl
 ·exact .inl ⟨_,rfl⟩
 ·exact .inl ⟨_,rfl⟩
 ·cases z0I l.hs with
  |nil=>exact .inl ⟨_,rfl⟩
  |cons e r=>exact .inr ⟨_,_,rfl⟩
theorem z5c(ls:List Ln):∀a∈ls.map lnT,Stab a:=fun a h=>by
 obtain⟨l,_,rfl⟩:=List.mem_map.1 h;exact ziH l
theorem zhE(l:Ln):WkL (lnT l) (pvC (lnR l)):=⟨rfl,fun j c d hc hd=>by
 match j with
 |0=>cases hc;cases hd;exact .refl _
 |1=>cases hc;cases hd;exact .refl _
 |2=>cases hc;cases hd;exact zmL 8 _
 |j+3=>cases hc⟩
theorem zcF(es:List (List PV)):es.flatten.map TV.pv=(es.map pvC).flatten:=by
 unfold pvC;rw[List.map_flatten]
theorem zkY(ls:List Ln):WkL (ls.map lnT).flatten ((z0k ls).flatten.map TV.pv):=by
 rw[zcF];unfold z0k;rw[List.map_map];refine WkL.flat (by simp) fun i a b ha hb=> ?_;rw[List.getElem?_map]at ha hb;cases hx:ls[i]? with
 |none=>rw[hx]at ha;cases ha
 |some l=>rw[hx]at ha hb;cases ha;cases hb;exact zhE l
theorem zbc(g:Sh.Glob)(l:Ln)(hl:l.c.fs.length≤1000)(hh:l.hs.length≤1000):zC g 65 [.agg (pvC (lnR l))] [] (.agg (lnT l)) []:=by
 have HE:=zgh g 94 (z0I l.hs) (fun cs hcs=>by
  obtain⟨x,hx,rfl⟩:=List.mem_map.1 hcs;rfl) (by rw[z0u];exact hh) (fun cs hcs=>by
  obtain⟨x,hx,rfl⟩:=List.mem_map.1 hcs;exact zj4 g x)
 have HC:=z2d g l.c hl;unfold lnR lnT pvC;generalize z0I l.hs=es at*;unfold clT at HC;cases es with
 |nil=>
  unfold tgT at*;refine z8 tf_101 ?_;simp only[vW,seval];refine z6 HC ?_;refine z6 HE ?_;trivial
 |cons e r=>
  unfold tgT at*;refine z8 tf_101 ?_;simp only[vW,seval];refine z6 HC ?_;refine z6 HE ?_;trivial
theorem zgk(g:Sh.Glob)(ls:List Ln)(h0:ls≠[])(hl:ls.length≤1000)(H:∀l∈ls,zC g 65 [.agg (pvC (lnR l))] [] (.agg (lnT l)) []):
  zC g 64 [.pv (.sl 3 (z0k ls)),.pv (.v (.func (.func 65) #[] #[]))] [] (.bs 1000 0 ls.length 0) [.box (ls.map lnT).flatten]:=by
 refine zp tf_99 ?_;have d0:¬(ls.length:Int)=0:=by have:=List.length_pos_iff.2 h0;omega
 have hrl:(ls.map lnT).length=ls.length:=List.length_map _;have hzs:Stab [TV.pv (.v (.string ⟨#[]⟩)),TV.pv (.v (.slice none 0 0)),TV.pv (.v (.slice none 0 0))]:=fun c hc=>by
  simp only[List.mem_cons,List.not_mem_nil,or_false]at hc;rcases hc with rfl|rfl|rfl<;>exact .inl ⟨_,rfl⟩
 have z0:(List.replicate ls.length [TV.pv (.v (.string ⟨#[]⟩)),TV.pv (.v (.slice none 0 0)),TV.pv (.v (.slice none 0 0))]).flatten=(z26 (ls.map lnT) [TV.pv (.v (.string ⟨#[]⟩)),TV.pv (.v (.slice none 0 0)),TV.pv (.v (.slice none 0 0))] 0).flatten:=by unfold z26;rw[hrl];simp
 have XS:=fun i=>(Stab.flat fun a (ha:a∈z26 (ls.map lnT) [TV.pv (.v (.string ⟨#[]⟩)),TV.pv (.v (.slice none 0 0)),TV.pv (.v (.slice none 0 0))] i)=>by
  rcases List.mem_append.1 ha with ha|ha
  ·exact z5c ls a (List.mem_of_mem_take ha)
  ·rw[(List.mem_replicate.1 ha).2];exact hzs)
 have X1:=fun i=>(XS i).fgt;have X2:=fun i=>(XS i).ids;have X3:=fun i=>(XS i).ren;clear XS;have hp:=fun i l (ex:ls[i]?=some l)=>zgv (z:=[TV.pv (.v (.string ⟨#[]⟩)),TV.pv (.v (.slice none 0 0)),TV.pv (.v (.slice none 0 0))]) (z68 ls) rfl (show(ls.map lnT)[i]?=some (lnT l) by rw[List.getElem?_map,ex];rfl);have hfl:∀i,i≤ls.length→(z26 (ls.map lnT) [TV.pv (.v (.string ⟨#[]⟩)),TV.pv (.v (.slice none 0 0)),TV.pv (.v (.slice none 0 0))] i).flatten.length=ls.length*3:=fun i hi=>by rw[z6I (zaB (z68 ls) rfl),zaA (by omega),hrl]
 have hend:(z26 (ls.map lnT) [TV.pv (.v (.string ⟨#[]⟩)),TV.pv (.v (.slice none 0 0)),TV.pv (.v (.slice none 0 0))] ls.length).flatten=(ls.map lnT).flatten:=by rw[←hrl,zgu]
 rw[←hend];obtain⟨X,hX⟩:∃X:Nat→List TV,∀i,(z26 (ls.map lnT) [TV.pv (.v (.string ⟨#[]⟩)),TV.pv (.v (.slice none 0 0)),TV.pv (.v (.slice none 0 0))] i).flatten=X i:=⟨_,fun _=>rfl⟩
 simp only[hX]at z0 X1 X2 X3 hp hfl ⊢;clear hend hX;simp only[vW,seval,d0,z0,z1k,List.map_cons,List.map_nil];refine⟨⟨by omega,by unfold maxLen;omega⟩,?_⟩;refine zz (σ:={i:Nat // i≤ls.length}) (fun i=>⟨[(1,.pv (.v (.func (.func 65) #[] #[]))),(5,.bs 13 0 ls.length 0),(14,.pv (.sl 3 (z0k ls))),(15,I (ls.length:Int)),(16,I (i.1:Int))],[(13,X i.1)],[],[]⟩) (fun i=>ls.length-i.1) ⟨0,Nat.zero_le _⟩ ?_ ?_
 ·simp only[X1];exact lwA
 rintro⟨i,hi⟩;by_cases hlt:i<ls.length
 ·have d1:(i:Int)<(ls.length:Int):=by omega
  obtain⟨l,ex⟩:∃x,ls[i]?=some x:=⟨_,gE hlt⟩
  have HC:=H l (gM ex);have hp:=hp i l ex;have hfl:=hfl i hi;have w1:=wS i;have hT:lnT l=[S (str l.c.n),.pv (.sl 4 (flR l.c.fs)),tgT 8 (z0I l.hs)]:=rfl;rw[hT]at hp HC;unfold lnR pvC at HC;simp only[List.map_cons,List.map_nil]at HC;cases hcs:z0I l.hs with
  |nil=>
   rw[hcs]at hp HC;unfold tgT at hp HC;simp only[List.append_assoc,List.cons_append,List.nil_append]at hp;simp only[vW,seval,d1,z1k,z66,ex,lnR,hcs,X1];(with_reducible apply zl);simp only[vW,seval,X1];rfl;exact HC;rfl;simp only[vW,seval,X1];rfl;simp only[vW,seval,d1,hp,w1,X1];refine⟨by omega,zb ⟨i+1,by omega⟩ (by show ls.length-(i+1)<ls.length-i;omega) ?_⟩;apply z1E<;>simp[leL,lk,sv,Nat.beq,I,S,ES.kill,has,drp,zH,X1]
   exact hp
  |cons e r=>
   rw[hcs]at hp HC;unfold tgT at hp HC;simp only[List.append_assoc,List.cons_append,List.nil_append]at hp;simp only[vW,seval,d1,z1k,z66,ex,lnR,hcs,X1];(with_reducible apply zl);simp only[vW,seval,X1];rfl;exact HC;rfl;simp only[vW,seval,X1];rfl;simp only[vW,seval,d1,hp,w1,X1];refine⟨by omega,zb ⟨i+1,by omega⟩ (by show ls.length-(i+1)<ls.length-i;omega) ?_⟩;apply z1E<;>simp[leL,lk,sv,Nat.beq,I,S,ES.kill,has,drp,zH,X1]
   exact hp
 ·have d1:¬(i:Int)<(ls.length:Int):=by omega
  obtain rfl:i=ls.length:=by omega
  simp only[vW,seval,d1,X1,X2,X3]
theorem z9H(g:Sh.Glob)(ls:List Ln)(h0:ls≠[])(hn:ls.length≤1000)(hl:∀l∈ls,l.c.fs.length≤1000∧l.hs.length≤1000):zC g 35 [scT ls] [] (.agg [.bs 1000 0 ls.length 0]) [.box (ls.map lnT).flatten]:=by
 have HE:=zgk g ls h0 hn (fun l h=>zbc g l (hl l h).1 (hl l h).2);have YS:=Stab.flat (z5c ls);have Y1:=YS.fgt;have Y2:=YS.ids;have Y3:=YS.ren;clear YS;generalize(ls.map lnT).flatten=Y at*;refine zp tf_94 ?_;unfold scT;simp only[vW,seval];refine z6 HE ?_ (hs:=by simp only[vW,seval,Y1,Y2,Y3];rfl);simp only[vW,seval,Y1,Y2,Y3]
theorem zm8{ls:List Ln}{k:Nat}{l l':Ln}{r:List TV}(hk:ls[k]?=some l)(hr:WkL r (pvC (lnR l'))):WkL ((ls.map lnT).set k r).flatten ((z0k (ls.set k l')).flatten.map TV.pv):=by
 rw[zcF];unfold z0k;rw[List.map_map];refine WkL.flat (by simp) fun i a b ha hb=> ?_;rw[List.getElem?_map]at hb;by_cases hi:k=i
 ·subst hi;have hkl:=(gJ hk).1;rw[List.getElem?_set_self (by simpa using hkl)]at ha;rw[List.getElem?_set_self hkl]at hb;cases ha;cases hb;exact hr
 ·rw[List.getElem?_set_ne hi,List.getElem?_map]at ha;rw[List.getElem?_set_ne hi]at hb;cases hx:ls[i]? with
  |none=>rw[hx]at ha;cases ha
  |some x=>rw[hx]at ha hb;cases ha;cases hb;exact zhE x
theorem zgL(ls:List Ln):∀cs∈z0k ls,cs.length=3:=fun cs h=>by
 obtain⟨l,_,rfl⟩:=List.mem_map.1 h;rfl
theorem zl8{d e W n:Nat}{es es2:List (List PV)}(h0:0<es2.length)(h1:(es.length+es2.length)*n≤140737488355328)(h2:es.length+es2.length≤maxLen):z5R d e W n (some (tgT W es)) (some es2)=some (.own d W (es++es2),.row d (e,W,es.length+es2.length)):=by
 cases es with
 |nil=>
  simp only[List.length_nil,Nat.zero_add]at h1 h2;unfold tgT;rw[e_appN1,if_pos ⟨h1,h2⟩];simp
 |cons e r=>
  unfold tgT;rw[e_appN3,if_pos ⟨rfl,h0,h1,h2⟩]
theorem zfW(m:Nat)(ls:List Ln)(h0:ls≠[])(h8:ls.length<8)(hs:z5q m ls)(he:(z3E ls).2=0)(hsm:∀l∈ls,l.c.fs.length≤1000∧l.hs.length≤1000)(c:Cls)(hc:zd c=true)(hn:z0V ls c.n=(0,false)):
  zC (glE m) 14 [scT ls,clT c] [] (.tuple [scT (ls++[⟨c,[]⟩]),I 0]) []:=by
 have hk:=z1e hc;have HC:=z2o m ls (by omega) hs;have HR:=z06 (glE m) c hk.1;have HN:=z3I (glE m) ls c.n (by omega);have HS:=z9H (glE m) ls h0 (by omega) hsm;have HF:=z2d (glE m) c (by omega);rw[hc]at HR;rw[he]at HC;rw[hn]at HN;have d8:¬(8:Int)≤(ls.length:Int):=by omega
 have e1:z0k (ls++[⟨c,[]⟩])=z0k ls++[lnR ⟨c,[]⟩]:=by unfold z0k;rw[List.map_append];rfl
 unfold scT;rw[e1];refine SCalls.out (y:=.tuple [.agg [.pv (.sl 3 (z0k ls++[z67 c]))],I 0]) ?_ (zjW (zgZ (z0k ls) c));have hw:=zkY ls;have YS:=Stab.flat (z5c ls);have Y1:=YS.fgt;have Y2:=YS.ids;have Y3:=YS.ren;clear YS;generalize(ls.map lnT).flatten=Y at*;refine z11 za tf_112 rfl ?_
 conv in SFunc.code _=>reduce
 unfold scT clT B at*;refine zh za ?_;simp only[vW,seval];refine zh za ?_;simp only[vW,seval];refine z6 HC ?_;refine zh za ?_;simp only[vW,seval];refine z6 HR ?_;refine zh za ?_;simp only[vW,seval];refine z6 HN ?_;simp only[vW,seval,z1k,d8,false_imp_iff,true_and,forall_const];refine zh za ?_;simp only[vW,seval];refine z6 HS ?_ (hs:=by simp only[vW,seval,Y1,Y2,Y3];rfl);refine z1g (z9u (k:=2160) (ds:=(z0k ls).flatten.map TV.pv) rfl hw.1 hw.2) ?_;refine z1g (zkh (x:=10) (j:=0) (d:=2160) (W:=3) (es:=z0k ls) rfl (zgL ls) (by decide) rfl (by rw[z1k];rfl)) ?_;refine zh za ?_;simp only[vW,seval];right;refine z6 HF ?_;refine⟨by rw[z1k];unfold maxLen;omega,?_⟩;refine z1g (ze6 (x:=10) (j:=0) (d:=47) (W:=3) rfl rfl) ?_;refine z1a za ?_;simp only[vW,seval];rfl
theorem zkS(m:Nat)(ls:List Ln)(hl:ls.length≤1000)(hs:z5q m ls)(he:(z3E ls).2=0)(hsm:∀l∈ls,l.c.fs.length≤1000∧l.hs.length≤1000){k:Nat}{l:Ln}(hk:ls[k]?=some l)(hlo:LnOk m l)(h12:l.hs.length<12)(h:Chg)(hh:ChOk m h)(ha:(z09 (zo l l.hs.length).1 h).2=0):
  zC (glE m) 11 [scT ls,I (k:Int),chT h] [] (.tuple [scT (ls.set k ⟨l.c,l.hs++[h]⟩),I 0]) []:=by
 have hkl:=(gJ hk).1;have HL:=z5K m ls hl hs he hk;have HM:=za9 m l hlo l.hs.length (Nat.le_refl _);have hrc:=z1e (z23 (z0i hlo.r (Nat.le_refl _)));have HA:=z4D m (zo l l.hs.length).1 h hrc.1 hh (by omega);rw[show z09 (zo l l.hs.length).1 h=((z09 (zo l l.hs.length).1 h).1,0) from by rw[←ha]]at HA;have HS:=z9H (glE m) ls (by intro e;rw[e]at hkl;simp at hkl) hl hsm;generalize(z09 (zo l l.hs.length).1 h).1=d at*;generalize(zo l l.hs.length).1=c0 at*;have d0:¬(12:Int)≤(l.hs.length:Int):=by omega
 have d1:(k:Int)<(ls.length:Int):=by omega
 have hel:(ls.map lnT)[k]?=some (lnT l):=by rw[List.getElem?_map,hk];rfl
 have eg:((ls.map lnT).flatten)[k*3+2]?=some (tgT 8 (z0I l.hs)):=z61 (z68 ls) hel rfl;have hfl:(ls.map lnT).flatten.length=ls.length*3:=by rw[z6I (z68 ls),List.length_map]
 have hY:∀o,List.take (k*3+2) (ls.map lnT).flatten++[o]++List.drop (k*3+2+1) (ls.map lnT).flatten=((ls.map lnT).set k [S (str l.c.n),.pv (.sl 4 (flR l.c.fs)),o]).flatten:=fun o=>by
  rw[←z5N (x:=[S (str l.c.n),.pv (.sl 4 (flR l.c.fs)),o]) rfl (z68 ls) (by rw[List.length_map];exact hkl),List.take_add_one,List.take_add_one];have g0:=z61 (z68 ls) hel (j:=0) rfl;have g1:=z61 (z68 ls) hel (j:=1) rfl;rw[Nat.add_zero]at g0;rw[g0,g1];simp
 have hst:WkL (List.take (k*3+2) (ls.map lnT).flatten++[.own 55 8 (z0I l.hs++[chR h])]++List.drop (k*3+2+1) (ls.map lnT).flatten) ((z0k (ls.set k ⟨l.c,l.hs++[h]⟩)).flatten.map TV.pv):=by
  rw[hY];refine zm8 hk ⟨rfl,fun j c d hc hd=> ?_⟩
  match j with
  |0=>cases hc;cases hd;exact .refl _
  |1=>cases hc;cases hd;exact .refl _
  |2=>
   cases hc;cases hd;have e:z0I (l.hs++[h])=z0I l.hs++[chR h]:=by unfold z0I;rw[List.map_append];rfl
   show Wk _ (.pv (.sl 8 (z0I (l.hs++[h]))));rw[e];exact zb4 (PWk.refl _)
  |j+3=>cases hc
 clear hY;unfold chR at hst;have YS:=Stab.flat (z5c ls);have Y1:=YS.fgt;have Y2:=YS.ids;have Y3:=YS.ren;clear YS;generalize(ls.map lnT).flatten=Y at*;refine z11 za tf_120 rfl ?_
 conv in SFunc.code _=>reduce
 unfold scT lnC z4C clT chT at*;refine zh za ?_;simp only[vW,seval];refine zh za ?_;simp only[vW,seval];refine z6 HL ?_;refine zh za ?_;simp only[vW,seval];refine zh za ?_;simp only[vW,seval,z0u,d0];refine zh za ?_;simp only[vW,seval,z0u,d0];refine z7 HM ?_;simp only[vW,seval];refine z6 HA ?_;refine zh za ?_;simp only[vW,seval];refine z6 HS ?_ (hs:=by simp only[vW,seval,Y1,Y2,Y3];rfl);refine zh za ?_;simp only[vW,seval,d1,eg,hfl,Y1];rw[zl8 (es2:=[[_,_,_,_,_,_,_,_]]) (Nat.succ_pos 0) (by rw[z0u];show(_+1)*104≤_;omega) (by rw[z0u];show _+1≤maxLen;unfold maxLen;omega)];simp only[vW,seval,d1,hfl,Y1];right;refine⟨by omega,?_⟩;refine z1g (z9u (k:=2172) (ds:=(z0k (ls.set k ⟨l.c,l.hs++[h]⟩)).flatten.map TV.pv) rfl hst.1 hst.2) ?_;refine z1g (zgy (x:=12) (j:=0) (d:=2172) (W:=3) (c:=0) (es:=z0k (ls.set k ⟨l.c,l.hs++[h]⟩)) rfl (zgL _) (by decide) rfl (by rw[z1k,List.length_set];rfl)) ?_;refine z1a za ?_;simp only[vW,seval]
section
variable{m:Nat}{ls:List Ln}{k:Nat}{l:Ln}(hl:ls.length≤1000)(hs:z5q m ls)(he:(z3E ls).2=0)(hk:ls[k]?=some l)
include hl hs he hk
theorem zhq(h12:12≤l.hs.length)(h:Chg):zC (glE m) 11 [scT ls,I (k:Int),chT h] [] (.tuple [.agg [zH],I 81]) []:=by
 have HL:=z5K m ls hl hs he hk;have d0:(12:Int)≤(l.hs.length:Int):=by omega
 refine z8 tf_120 ?_;unfold scT lnC chT zH at*;simp only[vW,seval];refine z6 HL ?_;simp only[vW,seval,z0u,d0,false_imp_iff,and_true,true_and,forall_const]
end
theorem zhO(m:Nat)(ls:List Ln)(hl:ls.length≤1000)(h8:8≤ls.length)(hs:z5q m ls)(he:(z3E ls).2=0)(c:Cls)(hc:zd c=true){k:Nat}{b:Bool}(hn:z0V ls c.n=(k,b)):zC (glE m) 14 [scT ls,clT c] [] (.tuple [.agg [zH],I 80]) []:=by
 have HC:=z2o m ls hl hs;have HR:=z06 (glE m) c (z1e hc).1;have HN:=z3I (glE m) ls c.n hl;rw[he]at HC;rw[hc]at HR;rw[hn]at HN;have d8:(8:Int)≤(ls.length:Int):=by omega
 refine z8 tf_112 ?_;unfold scT clT B zH at*;simp only[vW,seval];refine z6 HC ?_;refine z6 HR ?_;refine z6 HN ?_;cases b
 ·simp only[vW,seval,z1k,d8,false_imp_iff,and_true,true_and,forall_const]
 ·simp only[vW,seval,z1k,d8,false_imp_iff,and_true,true_and,forall_const]
end
theorem zn7(a b:zB):(str a==str b)=(a==b):=by
 show((str a).data==(str b).data)=(a==b)
 rw[Bool.eq_iff_iff,beq_iff_eq,beq_iff_eq];constructor
 ·intro h;have:=congrArg Array.toList h;simpa [str]using this
 ·intro h;rw[h]
theorem zmU(x y:Fld):((str x.n==str y.n)&&(z0B ⟨x.t.k,x.t.o⟩ ⟨y.t.k,y.t.o⟩&&((x.ix==y.ix)&&true)))=zbq x y:=by
 rw[zn7];unfold zbq z0B;simp[Bool.and_assoc]
theorem z96:∀{a b:List Fld},z2q a b=true→a.length=b.length
 |[],[],_=>rfl
 |[],_::_,h=>by simp[z2q]at h
 |_::_,[],h=>by simp[z2q]at h
 |x::a,y::b,h=>by
  rw[z2q,Bool.and_eq_true]at h;rw[List.length_cons,List.length_cons,z96 h.2]
theorem zlk(g:Sh.Glob)(a b:List Fld)(hl:a.length≤4611686018427387904)(hl':b.length≤4611686018427387904):zC g 40 [.pv (.sl 4 (flR a)),.pv (.sl 4 (flR b))] [] (B (z2q a b)) []:=by
 obtain⟨R,hR⟩:∃R,z2q a b=R:=⟨_,rfl⟩
 rw[hR];refine z8 Cd4.tf_133 ?_;unfold B;by_cases he:a.length=b.length
 ·have d0:(a.length:Int)=(b.length:Int):=by omega
  simp only[vW,seval,d0,clV];refine zz (σ:={i:Nat // i≤a.length∧z2q (a.drop i) (b.drop i)=R}) (fun i=>⟨[(0,.pv (.sl 4 (flR a))),(1,.pv (.sl 4 (flR b))),(12,I (a.length:Int)),(13,I (i.1:Int))],[],[],[]⟩) (fun i=>a.length-i.1) ⟨0,Nat.zero_le _,by simpa using hR⟩ ?_ ?_
  ·apply z1E<;>simp[leL,lk,sv,Nat.beq,I,S,ES.kill,has,drp,zH,d0]
  rintro⟨i,hi,hT⟩;by_cases hlt:i<a.length
  ·have d1:(i:Int)<(a.length:Int):=by omega
   have hlt2:i<b.length:=by omega
   obtain⟨x,ex⟩:∃x,a[i]?=some x:=⟨_,gE hlt⟩
   obtain⟨y,ey⟩:∃y,b[i]?=some y:=⟨_,gE hlt2⟩
   have w1:=wS i;have ha:a.drop i=x::a.drop (i+1):=by rw[List.drop_eq_getElem_cons hlt];congr 1;rw[gE hlt]at ex;exact Option.some.inj ex
   have hb:b.drop i=y::b.drop (i+1):=by rw[List.drop_eq_getElem_cons hlt2];congr 1;rw[gE hlt2]at ey;exact Option.some.inj ey
   rw[ha,hb,z2q]at hT;have hf:=zmU x y;have hn:=zlJ (str x.n) (str y.n) x.t.k y.t.k x.t.o y.t.o x.ix y.ix;rw[hf]at hn;cases hx:zbq x y
   ·rw[hx]at hT hn;simp only[Bool.false_and]at hT;subst hT;simp only[vW,seval,d1,ex,ey,hn,clV]
   ·rw[hx]at hT hn;rw[Bool.true_and]at hT;simp only[vW,seval,d1,ex,ey,hn,w1,clV];refine zb ⟨i+1,hlt,hT⟩ (by show a.length-(i+1)<a.length-i;omega) ?_;exact lwA
  have d1:¬(i:Int)<(a.length:Int):=by omega
  have ha:a.drop i=[]:=List.drop_eq_nil_of_le (by omega);have hb:b.drop i=[]:=List.drop_eq_nil_of_le (by omega);rw[ha,hb,z2q]at hT;subst hT;simp only[vW,seval,d1]
 ·have d0:¬(a.length:Int)=(b.length:Int):=by omega
  have:R=false:=by
   cases R
   ·rfl
   ·exact absurd (z96 hR) he
  subst this;simp only[vW,seval,d0,clV]
theorem zbU(g:Sh.Glob)(a b:Cls)(hl:a.fs.length≤4611686018427387904)(hl':b.fs.length≤4611686018427387904):zC g 17 [clT a,clT b] [] (B (z5h a b)) []:=by
 have HE:=zlk g a.fs b.fs hl hl';unfold z5h;refine z8 Cd4.tf_45 ?_;unfold clT B at*;cases hn:(a.n==b.n)
 ·simp only[vW,seval,hn]
 ·simp only[vW,seval,hn];exact zf HE
theorem zdr(g:Sh.Glob)(l:List V)(hf:∀v∈l,VFew v)(hl:l.length≤4611686018427387904):zC g 25 [.pv (.sl 4 (V.rows l)),.pv (.sl 4 (V.rows l))] [] (B true) []:=by
 refine z8 Cd7.tf_111 ?_;unfold B;simp only[vW,seval];refine zz (σ:={i:Nat // i≤l.length}) (fun i=>⟨[(0,.pv (.sl 4 (V.rows l))),(1,.pv (.sl 4 (V.rows l))),(5,I (i.1:Int))],[],[],[]⟩) (fun i=>l.length-i.1) ⟨0,Nat.zero_le _⟩ ?_ ?_
 ·exact lwA
 rintro⟨i,hi⟩;by_cases hlt:i<l.length
 ·have d1:(i:Int)<(l.length:Int):=by omega
  obtain⟨v,ev⟩:∃v,l[i]?=some v:=⟨_,gE hlt⟩
  have w1:=wS i;have HS:=zfs g v v (hf v (gM ev)).small;rw[zga]at HS;simp only[vW,seval,d1,ev];refine z7 HS ?_;simp only[vW,seval,w1];refine zb ⟨i+1,hlt⟩ (by show l.length-(i+1)<l.length-i;omega) ?_;exact lwA
 have d1:¬(i:Int)<(l.length:Int):=by omega
 simp only[vW,seval,d1]
end Go.Proofs.YthinnldeogflgaaGreatDoor
end

section
namespace Go.Sh.Cd11
open Go Go.Sh
abbrev gQ(a:GA):Prop:=gT Go.Proofs.Tryz.prog a
theorem gK{a:GA}(h:gQ a:=by unfold gQ gT;kernel_rfl):gQ a:=h
theorem tf_132:gQ ⟨51,32,[(29,1)],[],[[6],[10013],[1000002,14],[0,6,14],[],[18021],[7,22025],[8009,26029],[1002,15017,30],[6,30031],[1002,15017]],[.tmp 6],false⟩:=gK
theorem tf_131:gQ ⟨53,32,[(29,1)],[],[[6],[10013],[1000002,14],[0,6,14],[],[18021],[7,22025],[8009,26029],[1002,15017,30],[6,30031],[1002,15017]],[.tmp 6],false⟩:=gK
noncomputable def funcs:Nat→Option SFunc
 |_=>none
end Go.Sh.Cd11
end

section
namespace Go.Proofs.YthinnldeogflgaaGreatDoor
open Go Go.RowKit Go.Mor Go.Sh Go.Sh.Cd1 Go.Sh.Cd7
section
open Go.Sh.Cd10 Go.Sh.Cd11
def z2c{α:Type}(p:α→α→Bool):List α→List α→Bool
 |[],[]=>true
 |x::l,y::m=>p x y&&z2c p l m
 |_,_=>false
theorem z7h{α:Type}{p:α→α→Bool}:∀{a b:List α},a.length≠b.length→z2c p a b=false
 |[],[],h=>absurd rfl h
 |[],_::_,_=>rfl
 |_::_,[],_=>rfl
 |x::l,y::m,h=>by
  unfold z2c;rw[z7h (a:=l) (b:=m) (fun e=>h (by simp[e])),Bool.and_false]
theorem z9D{α:Type}{p:α→α→Bool}{a b:List α}{i:Nat}{x y:α}(hx:a[i]?=some x)(hy:b[i]?=some y):z2c p (a.drop i) (b.drop i)=(p x y&&z2c p (a.drop (i+1)) (b.drop (i+1))):=by
 obtain⟨h1,rfl⟩:=gJ hx;obtain⟨h2,rfl⟩:=gJ hy;rw[List.drop_eq_getElem_cons h1,List.drop_eq_getElem_cons h2];rfl
theorem zkd(g:Sh.Glob)(a b:List Chg)(ha:a.length≤1000):zC g 53 [.pv (.sl 8 (z0I a)),.pv (.sl 8 (z0I b)),.pv (.v (.func (.func 54) #[] #[]))] [] (B (z2c z3Q a b)) []:=by
 refine z8 tf_131 ?_;obtain⟨R,hR⟩:∃R,z2c z3Q a b=R:=⟨_,rfl⟩
 rw[hR];unfold B;by_cases hlen:a.length=b.length
 ·have d0:(a.length:Int)=(b.length:Int):=by omega
  simp only[vW,seval,d0,z0u];refine zz (σ:={i:Nat // i≤a.length∧z2c z3Q (a.drop i) (b.drop i)=R}) (fun i=>⟨[(1,.pv (.sl 8 (z0I b))),(2,.pv (.v (.func (.func 54) #[] #[]))),(15,.pv (.sl 8 (z0I a))),(16,I (b.length:Int)),(17,I (i.1:Int))],[],[],[]⟩) (fun i=>a.length-i.1) ⟨0,Nat.zero_le _,hR⟩ ?_ ?_
  ·exact lwA
  rintro⟨i,hi,hT⟩;by_cases hlt:i<a.length
  ·have d1:(i:Int)<(b.length:Int):=by omega
   obtain⟨x,ex⟩:∃x,a[i]?=some x:=⟨_,gE hlt⟩
   obtain⟨y,ey⟩:∃y,b[i]?=some y:=⟨_,gE (by omega)⟩
   have HS:=zfE g x y;have w1:=wS i;rw[z9D ex ey]at hT;unfold B at HS;unfold chT at HS;simp only[vW,seval,d1,z4o,ex,ey,chR];(with_reducible apply zl);exact kv;exact HS;rfl;exact kv;cases hp:z3Q x y
   ·simp only[vW,seval];rw[←hT,hp];rfl
   ·simp only[vW,seval,w1];rw[hp,Bool.true_and]at hT;exact zb ⟨i+1,by omega,hT⟩ (by show a.length-(i+1)<a.length-i;omega) lwA
  ·have d1:¬(i:Int)<(b.length:Int):=by omega
   rw[List.drop_eq_nil_of_le (by omega),List.drop_eq_nil_of_le (by omega)]at hT;simp only[vW,seval,d1];rw[←hT];rfl
 ·have d0:¬(a.length:Int)=(b.length:Int):=by omega
  simp only[vW,seval,d0,z0u];rw[←hR,z7h hlen]
def z3x(a b:Ln):Bool:=z5h a.c b.c&&z2c z3Q a.hs b.hs
theorem zj3(g:Sh.Glob)(a b:Ln)(h1:a.c.fs.length≤1000)(h2:b.c.fs.length≤1000)(h3:a.hs.length≤1000):zC g 52 [.agg (lnC a),.agg (lnC b)] [] (B (z3x a b)) []:=by
 have HC:=zbU g a.c b.c (by omega) (by omega);have HE:=zkd g a.hs b.hs h3;refine z8 tf_119 ?_;unfold z3x;unfold lnC clT B at*;simp only[vW,seval];refine z6 HC ?_;cases hc:z5h a.c b.c
 ·simp only[vW,seval]
 ·simp only[vW,seval];refine z6 HE ?_;trivial
theorem zke(g:Sh.Glob)(a b:List Ln)(ha:a.length≤1000)(h1:∀l∈a,l.c.fs.length≤1000∧l.hs.length≤1000)(h2:∀l∈b,l.c.fs.length≤1000):zC g 51 [.pv (.sl 3 (z0k a)),.pv (.sl 3 (z0k b)),.pv (.v (.func (.func 52) #[] #[]))] [] (B (z2c z3x a b)) []:=by
 refine z8 tf_132 ?_;obtain⟨R,hR⟩:∃R,z2c z3x a b=R:=⟨_,rfl⟩
 rw[hR];unfold B;by_cases hlen:a.length=b.length
 ·have d0:(a.length:Int)=(b.length:Int):=by omega
  simp only[vW,seval,d0,z1k];refine zz (σ:={i:Nat // i≤a.length∧z2c z3x (a.drop i) (b.drop i)=R}) (fun i=>⟨[(1,.pv (.sl 3 (z0k b))),(2,.pv (.v (.func (.func 52) #[] #[]))),(15,.pv (.sl 3 (z0k a))),(16,I (b.length:Int)),(17,I (i.1:Int))],[],[],[]⟩) (fun i=>a.length-i.1) ⟨0,Nat.zero_le _,hR⟩ ?_ ?_
  ·exact lwA
  rintro⟨i,hi,hT⟩;by_cases hlt:i<a.length
  ·have d1:(i:Int)<(b.length:Int):=by omega
   obtain⟨x,ex⟩:∃x,a[i]?=some x:=⟨_,gE hlt⟩
   obtain⟨y,ey⟩:∃y,b[i]?=some y:=⟨_,gE (by omega)⟩
   have HS:=zj3 g x y (h1 x (gM ex)).1 (h2 y (gM ey)) (h1 x (gM ex)).2;have w1:=wS i;rw[z9D ex ey]at hT;unfold B at HS;unfold lnC at HS;simp only[vW,seval,d1,z66,ex,ey,lnR];(with_reducible apply zl);exact kv;exact HS;rfl;exact kv;cases hp:z3x x y
   ·simp only[vW,seval];rw[←hT,hp];rfl
   ·simp only[vW,seval,w1];rw[hp,Bool.true_and]at hT;exact zb ⟨i+1,by omega,hT⟩ (by show a.length-(i+1)<a.length-i;omega) lwA
  ·have d1:¬(i:Int)<(b.length:Int):=by omega
   rw[List.drop_eq_nil_of_le (by omega),List.drop_eq_nil_of_le (by omega)]at hT;simp only[vW,seval,d1];rw[←hT];rfl
 ·have d0:¬(a.length:Int)=(b.length:Int):=by omega
  simp only[vW,seval,d0,z1k];rw[←hR,z7h hlen]
theorem zcK(g:Sh.Glob)(a b:List Ln)(ha:a.length≤1000)(h1:∀l∈a,l.c.fs.length≤1000∧l.hs.length≤1000)(h2:∀l∈b,l.c.fs.length≤1000):zC g 23 [scT a,scT b] [] (B (z2c z3x a b)) []:=by
 have HE:=zke g a b ha h1 h2;refine z8 tf_118 ?_;unfold scT B at*;simp only[vW,seval];exact zf HE
end
theorem zmK{W:Nat}{es ds:List (List PV)}(hl:es.length=ds.length)(h:∀(i:Nat) cs ds',es[i]?=some cs→ds[i]?=some ds'→cs.length=ds'.length∧∀(j:Nat) c d,cs[j]?=some c→ds'[j]?=some d→∀w K v,Go.Sh.RelV w K c v→Go.Sh.RelV w K d v):Wk (.pv (.sl W es)) (.pv (.sl W ds)):=by
 intro w E r v hr;have get:∀(i j:Nat) ds' d,ds[i]?=some ds'→ds'[j]?=some d→∃cs c,es[i]?=some cs∧cs[j]?=some c∧∀w K v,Go.Sh.RelV w K c v→Go.Sh.RelV w K d v:=by
  intro i j ds' d h1 h2;have hi:i<es.length:=by
   rcases Nat.lt_or_ge i ds.length with h|h
   ·omega
   ·rw[List.getElem?_eq_none h]at h1;cases h1
  have hq:=h i _ ds' (gE hi) h1;have hj:j<es[i].length:=by
   rcases Nat.lt_or_ge j ds'.length with h|h
   ·have:=hq.1;omega
   ·rw[List.getElem?_eq_none h]at h2;cases h2
  exact⟨_,_,gE hi,gE hj,hq.2 j _ d (gE hj) h2⟩
 cases hr with
 |pv hr=>
  cases hr with
  |sl W es b off cap p f hp hcap hmax hW hc hs=>
   refine .pv ?_;rw[hl];refine .sl W ds b off cap p f (fun hne=>hp (fun e=>hne ?_)) (by omega) hmax ?_ ?_ ?_
   ·rw[e]at hl;exact List.eq_nil_of_length_eq_zero hl.symm
   ·intro ds' hm;obtain⟨i,hi,rfl⟩:=List.getElem_of_mem hm;have hi2:i<es.length:=by omega
    rw[←(h i _ _ (gE hi2) (gE hi)).1];exact hW _ (List.getElem_mem hi2)
   ·intro i j ds' d h1 h2;obtain⟨cs,c,g1,g2,_⟩:=get i j ds' d h1 h2;exact hc i j cs c g1 g2
   ·intro i j ds' d h1 h2;obtain⟨cs,c,g1,g2,g3⟩:=get i j ds' d h1 h2;exact g3 _ _ _ (hs i j cs c g1 g2)
def rvN(x:V):List PV:=[.v (.int .i64 x.k),.v (.int .i64 x.n),.v (.string (str x.s)),.v (.slice none 0 0)]
theorem zeq{l:List V}(h:∀v∈l,v.l=[]):Wk (.pv (.sl 4 (l.map rvN))) (.pv (.sl 4 (V.rows l))):=by
 refine zmK (by rw[z0b];simp) (fun i cs ds h1 h2=> ?_);rw[z0b]at h2;rw[List.getElem?_map]at h1 h2;cases hi:l[i]? with
 |none=>rw[hi]at h1;cases h1
 |some x=>
  rw[hi]at h1 h2;cases h1;cases h2;rw[z1M];refine⟨rfl,fun j c d hc hd w K v hv=> ?_⟩;have hx:=h x (gM hi);rw[hx]at hd
  match j with
  |0=>cases hc;cases hd;exact hv
  |1=>cases hc;cases hd;exact hv
  |2=>cases hc;cases hd;exact hv
  |3=>
   cases hc;cases hd;cases hv;exact .sl 4 [] 0 0 0 none (fun _ _=>undef) (by simp) (by simp) (by simp) (by simp) (by simp) (by simp)
  |j+4=>cases hc
theorem zmT{x:V}(h:x.l=[])(hs:x.s.length≤60):VFew x∧VOk x:=⟨zc3 h,by unfold VOk z1S;rw[h];exact⟨by omega,by simp⟩⟩
section
open Go.Sh.Cd10
def c8:Cls:=⟨[99],[⟨[97],⟨1,0⟩,false⟩]⟩
def h8:Chg:=⟨1,[],[98],[],⟨1,0⟩,[97,32,42,32,50],[]⟩
def d8:Cls:=⟨[99],[⟨[97],⟨1,0⟩,false⟩,⟨[98],⟨1,0⟩,false⟩]⟩
def l8:Ln:=⟨c8,[h8]⟩
def n8(n:Int):V:=.mk 1 n [] []
theorem zbN:zd c8=true:=by kernel_rfl
theorem zmW:z09 c8 h8=(d8,0):=by kernel_rfl
theorem zlD:zZ l8=true:=by kernel_rfl
theorem zmY:zo l8 1=(d8,0):=by kernel_rfl
theorem zlB:zo l8 0=(c8,0):=by kernel_rfl
theorem zmZ:z6B l8 0 [n8 3] 1=[n8 3,n8 6]:=by kernel_rfl
theorem zjF(m:Nat):ChOk m h8:=⟨by unfold z25 h8;decide,by unfold z25 h8;decide,by unfold z25 h8;decide,zkT m (r:=rdV h8.x) (by kernel_rfl) (by unfold h8;decide),z8O m⟩
theorem l8_s:RightS [l8]:=⟨by decide,fun l hl=>by simp at hl;subst hl;exact zlD,fun i j a b hi hj _=>by
 have h1:=(gJ hi).1;have h2:=(gJ hj).1;simp at h1 h2;omega⟩
theorem zbv(m:Nat):LnOk m l8:=⟨zlD,fun x hx=>by unfold l8 at hx;simp at hx;subst hx;exact zjF m⟩
theorem ziC(m:Nat):z5q m [l8]:=fun l hl=>by
 simp at hl;subst hl;exact⟨(z1e zbN).1,(zbv m).h⟩
theorem zlC:FitC (zo l8 0).1 [n8 3]:=by
 rw[zlB];refine⟨zbN,rfl,fun i f v hf hv=> ?_⟩
 match i with
 |0=>cases hf;cases hv;show _=true;kernel_rfl
 |i+1=>cases hv
theorem zfX(m:Nat)(ls:List Ln)(hl:ls.length≤1000)(hs:z5q m ls)(he:(z3E ls).2=0)(c:Cls)(hc:zd c=true){k:Nat}(hn:z0V ls c.n=(k,true)):zC (glE m) 14 [scT ls,clT c] [] (.tuple [.agg [zH],I 80]) []:=by
 have HC:=z2o m ls hl hs;have HR:=z06 (glE m) c (z1e hc).1;have HN:=z3I (glE m) ls c.n hl;rw[he]at HC;rw[hc]at HR;rw[hn]at HN;refine z8 tf_112 ?_;unfold scT clT B zH at*;simp only[vW,seval];refine z6 HC ?_;refine z6 HR ?_;refine z6 HN ?_;simp only[vW,seval,false_imp_iff,and_true,true_and,forall_const]
theorem zkZ:Wk (.agg [zH]) (scT []):=z7l rfl fun j a b ha hb=>by
 match j with
 |0=>cases ha;cases hb;exact z2g 3
 |j+1=>cases ha
theorem last_bad'(m:Nat){ls:List Ln}{n e:Int}(he:e≠0)(HL:zC (glE m) 32 [scT ls,I n] [] (zcn e) []):zC (glE m) 12 [scT ls,I n] [] (.tuple [I 0,I e]) []:=ziD he HL
theorem zhQ(m:Nat):zC (glE m) 6 [] [] (B true) []:=by
 have HL:zC (glE m) 32 [scT [l8],I 0] [] (.tuple [.agg (lnC l8),I 0]) []:=z5K m [l8] (by decide) (ziC m) (by rw[l8_s.check]) (k:=0) rfl;have A1:zC (glE m) 14 [.agg [zH],clT c8] [] (.tuple [scT [⟨c8,[]⟩],I 0]) []:=(zdw m c8 zbN).inp rfl (fun j c d hc hd=>by
  match j with
  |0=>cases hc;cases hd;exact zkZ
  |1=>cases hc;cases hd;exact .refl _
  |j+2=>cases hc)
 have T1:=zje m c8 h8 zbN (zjF m) (by rw[zmW]);have V1:=zhL (zbv m) HL (fr:=0) (tt:=1) (Nat.zero_le _) (Nat.le_refl _) [n8 3] zlC;rw[show 1-0=1 from rfl,zmZ]at V1;have V1':zC (glE m) 24 [scT [l8],I 0,I 0,I 1,.pv (.sl 4 ([n8 3].map rvN))] [] (.tuple [.pv (.sl 4 (V.rows [n8 3,n8 6])),I 0]) []:=V1.inp rfl (fun j c d hc hd=>by
  match j with
  |0=>cases hc;cases hd;exact .refl _
  |1=>cases hc;cases hd;exact .refl _
  |2=>cases hc;cases hd;exact .refl _
  |3=>cases hc;cases hd;exact .refl _
  |4=>cases hc;cases hd;exact zeq (by intro v hv;simp at hv;subst hv;rfl)
  |j+5=>cases hc)
 have P0:zC (glE m) 16 [scT [l8],I 0,I 0] [] (.tuple [clT c8,I 0]) []:=by
  have:=zjr (zbv m) HL (v:=0) (Nat.zero_le _);rw[zlB]at this;exact this
 have P1:zC (glE m) 16 [scT [l8],I 0,I 1] [] (.tuple [clT d8,I 0]) []:=by
  have:=zjr (zbv m) HL (v:=1) (Nat.le_refl _);rw[zmY]at this;exact this
 have P2:=zla HL 2 (.inr (by decide));have A2:=zfX m [l8] (by decide) (ziC m) (by rw[l8_s.check]) c8 zbN (l8_s.find (k:=0) (x:=l8) rfl);have L0:zC (glE m) 12 [scT [l8],I 0] [] (.tuple [I 1,I 0]) []:=zdW HL;have F0:zC (glE m) 15 [scT [l8],S (str [99])] [] (.tuple [I 0,B true]) []:=by
  have:=z3I (glE m) [l8] [99] (by decide);rw[show z0V [l8] [99]=(0,true) from l8_s.find (k:=0) (x:=l8) rfl]at this;exact this
 have L1:=last_bad' m (by decide) (ziG m [l8] (by decide) (ziC m) 1 (by rw[l8_s.check]) (.inr (by decide)));have V2:=zg2 HL 1 0 (.inr (.inr (by decide))) zH;have SV:=zdr (glE m) [n8 3,n8 6] (by intro v hv;simp at hv;rcases hv with rfl|rfl<;>exact(zmT rfl (by decide)).1) (by decide);have SV':zC (glE m) 25 [.pv (.sl 4 (V.rows [n8 3,n8 6])),.pv (.sl 4 ([n8 3,n8 6].map rvN))] [] (B true) []:=SV.inp rfl (fun j c d hc hd=>by
  match j with
  |0=>cases hc;cases hd;exact .refl _
  |1=>cases hc;cases hd;exact zeq (by intro v hv;simp at hv;rcases hv with rfl|rfl<;>rfl)
  |j+2=>cases hc)
 have S1:=zcK (glE m) [l8] [l8] (by decide) (by intro l hl;simp at hl;subst hl;exact⟨by decide,by decide⟩) (by intro l hl;simp at hl;subst hl;decide);rw[show z2c z3x [l8] [l8]=true by kernel_rfl]at S1;have S2:=zcK (glE m) [⟨c8,[]⟩] [l8] (by decide) (by intro l hl;simp at hl;subst hl;exact⟨by decide,by decide⟩) (by intro l hl;simp at hl;subst hl;decide);rw[show z2c z3x [⟨c8,[]⟩] [l8]=false by kernel_rfl]at S2;have T1:zC (glE m) 11 [scT [⟨c8,[]⟩],I 0,chT h8] [] (.tuple [scT [l8],I 0]) []:=T1;clear V1 SV;generalize V.rows [n8 3,n8 6]=r1 at*;unfold scT at*;generalize z0k [l8]=r8 at*;generalize z0k [⟨c8,[]⟩]=r0 at*;unfold clT chT flR c8 d8 h8 n8 rvN zH B at*;simp only[List.map_cons,List.map_nil]at*;refine z1b tf_106 ?_;refine z6 A1 ?_;refine z6 T1 ?_;refine z6 V1' ?_;refine z6 P0 ?_;refine z6 P1 ?_;refine z6 P2 ?_;refine z6 A2 ?_;refine z6 L0 ?_;refine z6 F0 ?_;refine z6 L1 ?_;refine z6 V2 ?_;refine z6 SV' ?_;refine z6 S1 ?_;exact zf S2
theorem za5(m:Nat):ChOk m z2r:=⟨by unfold z25 z2r;decide,by unfold z25 z2r;decide,by unfold z25 z2r;decide,z8O m,z8O m⟩
theorem z9h(m:Nat){s:List Ln}(hs:RightS s)(hh:∀l∈s,∀h∈l.hs,h=z2r):z5q m s∧∀l∈s,l.c.fs.length≤1000∧l.hs.length≤1000:=by
 refine⟨fun l hl=>⟨?_,fun h hm=> ?_⟩,fun l hl=>⟨?_,?_⟩⟩
 ·have h0:=z0i (hs.line l hl) (Nat.zero_le _);rw[z1N]at h0;exact(z1e (z5s h0)).1
 ·rw[hh l hl h hm];exact za5 m
 ·have h0:=z0i (hs.line l hl) (Nat.zero_le _);rw[z1N]at h0;have:=(z1e (z5s h0)).2;omega
 ·have:=hs.line l hl;unfold zZ at this;simp only[Bool.and_eq_true]at this;have:=Nat.le_of_ble_eq_true this.1;omega
theorem z7R(n t:Nat):∀l∈z0J n t,∀h∈l.hs,h=z2r:=fun l hl h hm=>by
 unfold z0J at hl;rcases List.mem_cons.1 hl with rfl|hl
 ·exact List.eq_of_mem_replicate hm
 ·obtain⟨i,_,rfl⟩:=List.mem_map.1 hl;cases hm
def z4W(i:Nat):List Ln:=if i=0 then [] else z0J (min i 8) 0
theorem zm0:∀i,8≤i→i<10→z0V (z0J 8 0) (z4f i).n=(0,false):=fun i h1 h2=>by
 rcases(show i=8∨i=9 by omega)with rfl|rfl<;>decide
theorem zfV(m:Nat){i:Nat}(hi:i<10):zC (glE m) 14 [scT (z4W i),clT (z4f i)] [] (if i<8 then .tuple [scT (z4W (i+1)),I 0] else .tuple [.agg [zH],I 80]) []:=by
 have hc:=z8X i hi;by_cases h0:i=0
 ·subst h0;exact zdw m (z4f 0) hc
 by_cases h8:i<8
 ·rw[if_pos h8];unfold z4W;rw[if_neg h0,if_neg (by omega),show min i 8=i by omega,show min (i+1) 8=i+1 by omega,zaW i 0 (by omega)];have hR:=z3w i (by omega) (by omega) 0 (by omega);obtain⟨hk,hsm⟩:=z9h m hR (z7R i 0);have hl:=z4X i 0 (by omega);have hn:=zed i (by omega);rw[if_neg h0]at hn;exact zfW m (z0J i 0) (by intro e;rw[e]at hl;simp at hl;omega) (by omega) hk (by rw[hR.check]) hsm (z4f i) hc hn
 ·rw[if_neg h8];unfold z4W;rw[if_neg h0,show min i 8=8 by omega];have hR:=z3w 8 (by omega) (by omega) 0 (by omega);obtain⟨hk,_⟩:=z9h m hR (z7R 8 0);have hl:=z4X 8 0 (by omega);exact zhO m (z0J 8 0) (by omega) (by omega) hk (by rw[hR.check]) (z4f i) hc (zm0 i (by omega) hi)
theorem zfQ(m:Nat){q:Nat}(h1:1≤q)(h8:q≤8)(t:Nat):zC (glE m) 11 [scT (z0J q (min t 12)),I 0,chT z2r] [] (if t<12 then .tuple [scT (z0J q (min (t+1) 12)),I 0] else .tuple [.agg [zH],I 81]) []:=by
 have hR:=z3w q h1 h8 (min t 12) (by omega);obtain⟨hk,hsm⟩:=z9h m hR (z7R q (min t 12));have hl:=z4X q (min t 12) h1;have hlen:(z1j (min t 12)).hs.length=min t 12:=by simp[z1j]
 by_cases h:t<12
 ·rw[if_pos h,show min t 12=t by omega,show min (t+1) 12=t+1 by omega,zaX]at*;have hlo:LnOk m (z1j t):=⟨z2D t (by omega),fun x hx=>by rw[List.eq_of_mem_replicate hx];exact za5 m⟩
  have ho:=zgJ t h;exact zkS m (z0J q t) (by omega) hk (by rw[hR.check]) hsm (k:=0) (l:=z1j t) rfl hlo (by omega) z2r (za5 m) (by
   have:=zgS (l:=z1j t) (z2D t (by omega)) z2r;rw[ho,if_pos rfl]at this;exact this)
 ·rw[if_neg h];have:=zhq (m:=m) (ls:=z0J q (min t 12)) (by omega) hk (by rw[hR.check]) (k:=0) (l:=z1j (min t 12)) rfl (by omega) z2r;exact this
end
end Go.Proofs.YthinnldeogflgaaGreatDoor
end

section
namespace Go.Proofs.YthinnldeogflgaaGreatDoor
open Go Go.RowKit Go.Mor Go.Sh Go.Sh.Cd1 Go.Sh.Cd7 Go.Sh.Cd10
theorem zlZ{i:Nat}(h:8≤i):z4W (i+1)=z4W i:=by
 unfold z4W;rw[if_neg (by omega),if_neg (by omega),show min (i+1) 8=min i 8 by omega]
theorem zkM{q t:Nat}(h:12≤t):z0J q (min (t+1) 12)=z0J q (min t 12):=by rw[show min (t+1) 12=min t 12 by omega]
theorem nbT:(true !=true)=false:=rfl
theorem nbF:(false !=false)=false:=rfl
theorem zmI:∀i:Nat,i<10→IntKind.u8.wrap ((48+i:Nat):Int)=((48+i:Nat):Int):=by decide
theorem zmB(i:Nat):str [99,UInt8.ofNat (48+i)]=str [99]++str [UInt8.ofNat (48+i)]:=rfl
theorem z9G(m:Nat)(n k:Int)(hn:I64 n)(hk:I64 k):zC (glE m) 4 [I n,I k] [] (B true) []:=by
 have HX:=zhQ m;obtain⟨j,ej,hj⟩:=zcA n (show 0<10 by decide);obtain⟨u,eu,hu⟩:=zcA k (show 0<16 by decide);have P0:=zcz (glE m) n 10 hn (by decide);have P1:=zcz (glE m) k 16 hk (by decide);have ej:Go.Mor.pick n 10=(j:Int):=ej;have eu:Go.Mor.pick k 16=(u:Int):=eu;rw[ej]at P0;rw[eu]at P1;have w0:IntKind.i64.wrap (1+(j:Int))=((j+1:Nat):Int):=wG;refine z8 tf_105 ?_;unfold B at*;simp only[vW,seval];refine z6 HX ?_;refine z7 P0 ?_;simp only[vW,seval,w0];refine zz (σ:={i:Nat // i≤j+1}) (fun i=>⟨[(1,I k),(5,.pv (.v (.bool true))),(6,.ptr 6 0),(7,I ((j+1:Nat):Int)),(8,I (i.1:Int))],[(6,[.pv (.sl 3 (z0k (z4W i.1)))])],[],[]⟩) (fun i=>j+1-i.1) ⟨0,Nat.zero_le _⟩ ?_ ?_
 ·refine ES.Lw.trans ?_ (z9u (k:=6) (ds:=[.pv (.sl 3 [])]) rfl rfl (fun q c d hc hd=>by
   match q with
   |0=>cases hc;cases hd;exact z2g 3
   |q+1=>cases hc))
  apply z1E<;>simp[leL,lk,sv,Nat.beq,I,S,ES.kill,has,drp,zH,show z0k (z4W 0)=[] from rfl]
 rintro⟨i,hi⟩;by_cases hlt:i<j+1
 ·have d1:(i:Int)<((j+1:Nat):Int):=by omega
  have w1:=wS i;have w2:IntKind.i64.wrap (48+(i:Int))=((48+i:Nat):Int):=wG;have w3:=zmI i (by omega);have bs1:seqO Go.Sh.byteOf [[PV.v (.int .u8 ((48+i:Nat):Int))]]=some [UInt8.ofNat (48+i)]:=rfl;have HA:=zfV m (i:=i) (by omega);unfold scT clT zH z4f at HA
  dsimp only at HA
  rw[zmB]at HA;by_cases h8:i<8
  ·rw[if_pos h8]at HA;have d2:(i:Int)<8:=by omega
   simp only[vW,seval,d1,w2,w3,bs1];refine⟨by show 1+1≤9223372036854775807;decide,?_⟩;refine z6 HA ?_;simp only[vW,seval,z4n,nbT,nbF,d2,w1,false_imp_iff,and_true,true_and,forall_const];exact zb ⟨i+1,hlt⟩ (by show j+1-(i+1)<j+1-i;omega) lwA
  ·rw[if_neg h8]at HA;have d2:¬(i:Int)<8:=by omega
   have e8:=zlZ (i:=i) (by omega);simp only[vW,seval,d1,w2,w3,bs1];refine⟨by show 1+1≤9223372036854775807;decide,?_⟩;refine z6 HA ?_;simp only[vW,seval,z4n,nbT,nbF,d2,w1,false_imp_iff,and_true,true_and,forall_const];exact zb ⟨i+1,hlt⟩ (by show j+1-(i+1)<j+1-i;omega) (by rw[e8];exact lwA)
 ·have d1:¬(i:Int)<((j+1:Nat):Int):=by omega
  obtain rfl:i=j+1:=by omega
  have es:z4W (j+1)=z0J (min (j+1) 8) 0:=by unfold z4W;rw[if_neg (by omega)]
  have q1:1≤min (j+1) 8:=by omega
  have q8:min (j+1) 8≤8:=by omega
  rw[es];obtain⟨q,eq⟩:∃q,min (j+1) 8=q:=⟨_,rfl⟩
  rw[eq]at q1 q8 ⊢;simp only[vW,seval,d1];refine z7 P1 ?_;simp only[vW,seval];refine zz (σ:={t:Nat // t≤u}) (fun t=>⟨[(5,.pv (.v (.bool true))),(6,.ptr 6 0),(7,I ((j+1:Nat):Int)),(11,I (u:Int)),(12,I (t.1:Int))],[(6,[.pv (.sl 3 (z0k (z0J q (min t.1 12))))])],[],[]⟩) (fun t=>u-t.1) ⟨0,Nat.zero_le _⟩ ?_ ?_
  ·exact lwA
  rintro⟨t,ht⟩;by_cases hlt2:t<u
  ·have d3:(t:Int)<(u:Int):=by omega
   have w4:=wS t;have HT:=zfQ m q1 q8 t;unfold scT chT z2r zH at HT
   dsimp only at HT
   by_cases h12:t<12
   ·rw[if_pos h12]at HT;have d4:(t:Int)<12:=by omega
    simp only[vW,seval,d3];refine z6 HT ?_;simp only[vW,seval,z4n,nbT,nbF,d4,w4,false_imp_iff,and_true,true_and,forall_const];exact zb ⟨t+1,hlt2⟩ (by show u-(t+1)<u-t;omega) lwA
   ·rw[if_neg h12]at HT;have d4:¬(t:Int)<12:=by omega
    have e12:=zkM (q:=q) (t:=t) (by omega);simp only[vW,seval,d3];refine z6 HT ?_;simp only[vW,seval,z4n,nbT,nbF,d4,w4,false_imp_iff,and_true,true_and,forall_const];exact zb ⟨t+1,hlt2⟩ (by show u-(t+1)<u-t;omega) (by rw[e12];exact lwA)
  ·have d3:¬(t:Int)<(u:Int):=by omega
   obtain rfl:t=u:=by omega
   have hR:=z3w q q1 q8 (min t 12) (by omega);obtain⟨hk2,_⟩:=z9h m hR (z7R q (min t 12));have hl:=z4X q (min t 12) q1;have hlh:(z1j (min t 12)).hs.length=min t 12:=by simp[z1j]
   have HL:=zdW (z5K m (z0J q (min t 12)) (by omega) hk2 (by rw[hR.check]) (k:=0) (l:=z1j (min t 12)) rfl);rw[hlh]at HL;have HK:=z2o m (z0J q (min t 12)) (by omega) hk2;rw[hR.check]at HK;unfold scT at HL HK;simp only[vW,seval,d3];refine z6 HL ?_;refine z7 HK ?_;simp only[vW,seval,z1k,hl];have f1:((min t 12:Nat):Int)=min (t:Int) 12:=by omega
   have f2:(q:Int)=min ((j+1:Nat):Int) 8:=by omega
   exact⟨fun _=>by rw[decide_eq_true f2],fun h=>absurd f1 h⟩
end Go.Proofs.YthinnldeogflgaaGreatDoor
end
