/- Merged texts: Ze12 Zg10. No statement of the program is proved here. -/
import Derived.Test.YtcpaleaajdilgaaGreatDoorQ22
set_option linter.unusedSimpArgs false
set_option linter.unusedVariables false
set_option maxRecDepth 100000
set_option maxHeartbeats 8000000
section
namespace Go.Proofs.YtcpaleaajdilgaaGreatDoor
open Go Go.RowKit Go.Mor Go.Sh Go.Sh.Cd1
section
open Go.Sh.Cd4 Go.Sh.Cd5
theorem zos{f:V→Nat}:∀{l:List V} {x:V},x∈l→f x≤(l.map f).sum:=by
 intro l
 induction l<;>grind
theorem zej(sep:zB)(f:V→zB)(g:V→Nat):∀(l:List V),(∀x∈l,(f x).length≤200*g x)→(Lib.join (l.map f) sep).length≤200*(l.map g).sum+sep.length*l.length:=by
 have hlens:∀(l:List V),(∀x∈l,(f x).length≤200*g x)→Lib.lens (l.map f)≤200*(l.map g).sum:=by
  intro l
  induction l<;>grind [Lib.lens,Nat.mul_add,only]
 intro l h;cases l with
 |nil=>simp[Lib.join_nil]
 |cons x l=>
  have h1:=hlens (x::l) h;rw[List.map_cons,Lib.join_length];rw[List.map_cons]at h1;rw[List.length_map,List.length_cons,Nat.mul_add,Nat.mul_one];omega
theorem rightText_len'{s:zB}(h:zh s=true):s.length≤60:=by grind [zh]
theorem rightName_len'{s:zB}(h:zb s=true):s.length≤60:=by grind [zb]
theorem zcg{s:zB}(h:0<zu s):s.length≤2:=by
 rcases z9H h with h|h|h|h|h|h|h|h|h|h|h|h<;>subst h<;>decide
theorem zcQ{s:zB}(h:0<zq s):s.length≤5∧zq s≤3:=by
 unfold zq at*;split at h
 ·next h1=>rcases h1 with h1|h1|h1<;>subst h1<;>decide
 ·split at h
  ·next h1=>rcases h1 with h1|h1|h1|h1|h1|h1<;>subst h1<;>decide
  ·grind
theorem zk3(s:zB):Lib.replaceAll (Lib.replaceAll s [92] [92,92]) [34] [92,34]=zeJ s:=by
 rw[z4G 34 _ (by decide),z4G 92 _ (by decide)];unfold zeJ;rw[List.flatMap_assoc]
 grind
theorem zeK(s:zB):(zeJ s).length≤2*s.length:=by
 unfold zeJ
 induction s<;>grind
theorem zam(e:V)(m:Int)(t:zB):(z5I e m t).length≤t.length+2:=by
 grind [z5I,brk]
theorem zc3:∀(d:Nat) (e:V),okE d e=true→(z19 d e).length+10≤200*szE d e:=by
 intro d
 induction d with
 |zero=>grind [okE]
 |succ d ih=>
  intro e h;rw[okE,Bool.and_eq_true,List.all_eq_true]at h;obtain⟨hn,hk⟩:=h;unfold z19 szE;rcases z3a hn with k|k|k|k|k|k
  ·rw[if_pos k];have:=zbb hn k
   grind [Lib.itoa_length_le]
  ·rw[if_neg (by omega),if_pos k];have:=rightText_len' (z7s hn k).2.1
   grind [zeK,only,List.length_cons,List.length_append,List.length_nil]
  ·rw[if_neg (by omega),if_neg (by omega),if_neg (by omega),if_neg (by omega),if_neg (by omega)];have:=rightName_len' (zdo hn k).2.1;omega
  ·rw[if_neg (by omega),if_neg (by omega),if_neg (by omega),if_pos k];obtain⟨_,hb,a,b,hl⟩:=z69 hn k
   grind [zcg,zam,zu,z19,only,List.length_cons,List.length_append,List.length_nil]
  ·rw[if_neg (by omega),if_neg (by omega),if_pos k];obtain⟨_,_,a,hl⟩:=z7t hn k
   grind [zam,z19,only,List.length_cons,List.length_append,List.length_nil,List.getD_cons_zero,List.getD_cons_succ]
  ·rw[if_neg (by omega),if_neg (by omega),if_neg (by omega),if_neg (by omega),if_pos k];obtain⟨_,hb,hl⟩:=z6a hn k;have h3:=zcQ hb;have h4:=zej [44,32] (z19 d) (szE d) e.l fun x hx=>by have:=ih x (hk x hx);omega
   grind
def z4m(f:V→zB)(l:List V)(i:Nat):List PV:=(l.take i).map (fun x=>PV.v (.string (str (f x))))++List.replicate (l.length-i) (.v (.string (str [])))
theorem zo4(f:V→zB)(l:List V):pvC (z4m f l 0)=(List.replicate l.length [TV.pv (.v (.string ⟨#[]⟩))]).flatten:=by
 have:∀n,(List.replicate n [TV.pv (.v (.string ⟨#[]⟩))]).flatten=List.replicate n (S (str [])):=by
  intro n
  induction n with
  |zero=>rfl
  |succ n ih=>rw[List.replicate_succ,List.flatten_cons,ih];rfl
 rw[this];simp[z4m,pvC,S]
theorem zcH(f:V→zB)(l:List V)(i:Nat)(h:i≤l.length):(z4m f l i).length=l.length:=by grind [z4m]
theorem zk1(f:V→zB)(l:List V):pvC (z4m f l l.length)=zbZ (l.map f):=by simp[z4m,zbZ,Function.comp_def]
theorem zhY{f:V→zB}{l:List V}{i:Nat}{x:V}(h:l[i]?=some x):List.take i (pvC (z4m f l i))++[TV.pv (.v (.string (str (f x))))]++List.drop (i+1) (pvC (z4m f l i))=pvC (z4m f l (i+1)):=by
 have hi:i<l.length:=(gJ h).1;rw[z9v (by grind [zcH])];congr 1;have hl:((l.take i).map (fun x=>PV.v (.string (str (f x))))).length=i:=by grind
 unfold z4m;rw[List.set_append_right _ _ (by omega),hl,Nat.sub_self,List.take_add_one,h,show l.length-i=(l.length-(i+1))+1 by omega,List.replicate_succ,List.set_cons_zero];simp
theorem q34':(⟨#[34]⟩:ByteArray)=str [34]:=rfl
theorem q40':(⟨#[40]⟩:ByteArray)=str [40]:=rfl
theorem q41':(⟨#[41]⟩:ByteArray)=str [41]:=rfl
theorem q45':(⟨#[45]⟩:ByteArray)=str [45]:=rfl
theorem q4432':(⟨#[44,32]⟩:ByteArray)=str [44,32]:=rfl
theorem q32':(⟨#[32]⟩:ByteArray)=str [32]:=rfl
theorem zpn(m:Nat)(e:V)(t:zB)(ht:t.length≤100000)(zi:Int)(HT:zC (glT m) 83 [.agg [z0c],tv e] [] (S (str t)) []):
  zC (glT m) 157 [.agg [z0c],tv e,I zi] [] (S (str (z5I e zi t))) []:=by
 by_cases k4:e.k=4
 ·by_cases hb:zu e.s<zi
  ·rw[show z5I e zi t=brk t from if_pos ⟨k4,hb⟩];unfold brk;obtain⟨k,n,s,l⟩:=e;simp only[Vk,Vs]at k4 hb;subst k4;refine za tf_36 ?_;simp only[vW,seval,bmV,hb];refine zt HT ?_;simp only[vcA,seval,q40',q41'];omega
  ·rw[show z5I e zi t=t from if_neg fun h=>hb h.2];obtain⟨k,n,s,l⟩:=e;simp only[Vk,Vs]at k4 hb;subst k4;refine za tf_36 ?_;simp only[vW,seval,bmV,hb];refine zt HT ?_;simp only[vW,seval,bmV,q40',q41']
 ·rw[show z5I e zi t=t from if_neg fun h=>k4 h.1];refine za tf_36 ?_;simp only[vW,seval,bmV,k4];refine zt HT ?_;simp only[vW,seval,bmV,q40',q41']
theorem zou(m:Nat):∀(d:Nat) (e:V),okE d e=true→szE d e≤40→zC (glT m) 83 [.agg [z0c],tv e] [] (S (str (z19 d e))) []:=by
 intro d
 induction d with
 |zero=>intro e h;simp[okE]at h
 |succ d ih=>
  intro e h hz;refine za tf_37 ?_;have hI:∀n:Int, -1000000000000000≤n→n≤1000000000000000→zC (glT m) 97 [I n] [] (S (str (Lib.itoa n))) []:=fun n h1 h2=>zgm m n (by omega) (by omega);rw[okE,Bool.and_eq_true,List.all_eq_true]at h;obtain⟨hn,hk⟩:=h;have hz1:∀x∈e.l,szE d x≤39:=fun x hx=>by
   have:=zos (f:=szE d) hx;unfold szE at hz;omega
  have hx:∀x∈e.l,∀zi:Int,zC (glT m) 157 [.agg [z0c],tv x,I zi] [] (S (str (z5I x zi (z19 d x)))) []:=fun x hx zi=>by
   have:=zc3 d x (hk x hx);have:=hz1 x hx;exact zpn m x _ (by omega) zi (ih x (hk x hx) (by omega))
  have hL:∀x∈e.l,∀zi:Int,(z5I x zi (z19 d x)).length≤10000:=fun x hx zi=>by
   have:=zc3 d x (hk x hx);have:=hz1 x hx;have:=zam x zi (z19 d x);omega
  unfold z19;by_cases k1:e.k=1
  ·rw[if_pos k1];have hb:=zbb hn k1;have HI:=hI e.n (by omega) (by omega);simp only[vW,seval,bmV,k1];exact z1h HI
  rw[if_neg k1];by_cases k2:e.k=2
  ·rw[if_pos k2];have hl:=rightText_len' (z7s hn k2).2.1;have l1:=zme e.s;have HR1:=zgE m e.s [92] [92,92] (by omega) (by decide) (by have:=zaY 92 e.s;simp only[List.length_cons,List.length_nil];omega);have HR2:=zgE m (Lib.replaceAll e.s [92] [92,92]) [34] [92,34] (by omega) (by decide) (by have:=zaY 34 (Lib.replaceAll e.s [92] [92,92]);simp only[List.length_cons,List.length_nil];omega);rw[zk3]at HR2;have l2:=zeK e.s;simp only[vW,seval,bmV,k2];refine zU HR1 ?_;refine zt HR2 ?_;simp only[vW,seval,bmV,q34'];exact⟨by omega,by omega⟩
  rw[if_neg k2];by_cases k5:e.k=5
  ·rw[if_pos k5];obtain⟨_,_,a,hl⟩:=z7t hn k5;have HA:=hx a (by rw[hl];simp) 5;have la:=hL a (by rw[hl];simp) 5;rw[hl,List.getD_cons_zero];obtain⟨k,n,s,l⟩:=e;simp only[Vk,Vl]at k5 hl;subst k5 hl;simp only[vW,seval,bmV];refine zt HA ?_;simp only[vW,seval,bmV,q45'];omega
  rw[if_neg k5];by_cases k4:e.k=4
  ·rw[if_pos k4];obtain⟨_,hb,a,b,hl⟩:=z69 hn k4;have l3:=zcg hb;have b3:=z86 e.s;have w1:IntKind.i64.wrap (zu e.s+1)=zu e.s+1:=wrap64 (by omega) (by omega);have HA:=hx a (by rw[hl];simp) (zu e.s);have la:=hL a (by rw[hl];simp) (zu e.s);have HB:=hx b (by rw[hl];simp) (zu e.s+1);have lb:=hL b (by rw[hl];simp) (zu e.s+1);rw[hl,List.getD_cons_zero,List.getD_cons_succ,List.getD_cons_zero];obtain⟨k,n,s,l⟩:=e;simp only[Vk,Vs,Vl]at k4 hl l3 w1 HA HB la lb ⊢;subst k4 hl;simp only[vW,seval,bmV];refine zt HA ?_;simp only[vW,seval,q32',w1];refine⟨by omega,by omega,by omega,?_⟩;refine zU HB ?_;refine⟨by omega,?_⟩;simp only[List.append_assoc,List.cons_append,List.nil_append]
  rw[if_neg k4];by_cases k6:e.k=6
  ·rw[if_pos k6];obtain⟨_,hb,hl⟩:=z6a hn k6;have h3:=zcQ hb;have h4:=zej [44,32] (z19 d) (szE d) e.l fun x hx=>by have:=zc3 d x (hk x hx);omega
   have h5:(e.l.map (szE d)).sum≤40:=by unfold szE at hz;omega
   simp only[List.length_cons,List.length_nil]at h4;have HJ:=znJ m (e.l.map (z19 d)) [44,32] (by rw[List.length_map];omega) (by omega);rw[List.length_map,←zk1]at HJ;have HT:∀x∈e.l,zC (glT m) 83 [.agg [z0c],tv x] [] (S (str (z19 d x))) []:=fun x hx=>ih x (hk x hx) (by have:=hz1 x hx;omega);obtain⟨k,n,s,l⟩:=e;simp only[Vk,Vs,Vl]at k6 hl h3 h4 h5 HJ HT ⊢;clear hx hL hz1 hk ih hI;subst k6;simp only[vW,seval,bmV];refine⟨⟨by omega,by unfold maxLen;omega⟩,?_⟩;rw[←zo4 (z19 d)];refine zw (σ:={i:Nat // i≤l.length}) (fun i=>⟨[(2,.ptr 2 0),(3,.ptr 3 0),(7,.bs 68 0 l.length l.length),(70,.pv (.sl 4 (V.rows l))),(71,I (l.length:Int)),(72,I (i.1:Int))],[(2,[z0c]),(3,[I 6,I n,S (str s),.pv (.sl 4 (V.rows l))]),(68,pvC (z4m (z19 d) l i.1))],[],[]⟩) (fun i=>l.length-i.1) ⟨0,by omega⟩ ?_ ?_
   ·apply z06<;>simp[leL,lk,sv,Nat.beq,I,S,ES.kill,has,drp,zK,z6W]
   rintro⟨i,hi⟩;by_cases hlt:i<l.length
   ·have d1:(i:Int)<(l.length:Int):=by omega
    obtain⟨y,ey⟩:∃y,l[i]?=some y:=⟨_,gE hlt⟩
    have HW:=HT y (gM ey);have w1:=wS i;have pl:=zcH (z19 d) l i hi;have ps:=zhY (f:=z19 d) ey;simp only[vW,seval,bmV,d1,ey];refine zt HW ?_;simp only[vW,seval,bmV,pl,w1,Nat.mul_one,ps];refine⟨by omega,by omega,zc ⟨i+1,by omega⟩ (by show l.length-(i+1)<l.length-i;omega) ?_⟩;exact lwA
   ·have d1:¬(i:Int)<(l.length:Int):=by omega
    obtain rfl:i=l.length:=by omega
    simp only[vW,seval,bmV,d1,q40',q41',q4432'];refine⟨by omega,?_⟩;refine zt HJ ?_;simp only[vW,seval,bmV,q40',q41'];refine⟨by omega,by omega,?_⟩;simp only[List.append_assoc,List.cons_append,List.nil_append]
  rw[if_neg k6];simp only[vW,seval,bmV,k1,k2,k4,k5,k6]
theorem z7H{e:V}(h:z0q e=true):okE 8 e=true∧szE 8 e≤40:=by
 unfold z0q at h
 grind
def prV(e:V):TV:=if z0q e then .tuple [S (str (z19 8 e)),I 0] else .tuple [S (str []),I 50]
theorem zm8(m:Nat)(e:V)(he:ESmall e):zC (glT m) 40 [tv e] [] (prV e) []:=by
 have HR:=zne (z4d m e he);have HB:=z6s (glT m);unfold prV B at*;refine za tf_96 ?_;cases hr:z0q e
 ·rw[hr]at HR;simp only[vW,seval];refine zU HR ?_;rfl
 ·rw[hr]at HR;have hi:=z7H hr;have HT:=zou m 8 e hi.1 hi.2;simp only[vW,seval];refine zU HR ?_;refine zU HB ?_;exact z1h HT
end
section
open Go.Sh.Cd6
theorem z9L:∀{fs:List Fld} {vs:List V} {k:Nat},(z2w k fs vs).2=0→∀(i:Nat) f v,fs[i]?=some f→vs[i]?=some v→zD v f.t=true
 |[],_,_,_,i,f,v,h,_=>by simp at h
 |_::_,[],_,_,i,f,v,_,h=>by simp at h
 |g::fs,u::vs,k,hk,i,f,v,hf,hv=>by
  unfold z2w at hk;split at hk
  ·rename_i h1;cases i with
   |zero=>cases hf;cases hv;exact h1
   |succ i=>exact z9L hk i f v (by simpa using hf) (by simpa using hv)
  ·cases hk
theorem zey{all:List Fld}:∀{l:List Fld} {k:Nat},z2U all k l=true→∀f∈l,zG f=true
 |[],_,_,f,h=>by cases h
 |g::l,k,ho,f,h=>by
  rw[z8w]at ho;simp only[Bool.and_eq_true]at ho;rcases List.mem_cons.1 h with rfl|h
  ·exact ho.1.1
  ·exact zey ho.2 f h
theorem ziS{c:Cls}{vs:List V}(h:(z1Z c vs).2=0):z5B c.fs vs:=by
 unfold z1Z at h;split at h
 ·cases h
 rename_i hr;split at h
 ·cases h
 rename_i hl;have hr:zn c=true:=by simpa using hr
 unfold zn at hr;simp only[Bool.and_eq_true]at hr;refine⟨fun f hf=> ?_,by omega,z9L h⟩;have:=zey hr.2 f hf;unfold zG at this;simp only[Bool.and_eq_true]at this;exact this.1.2
def zdz(r:Ty×Int):TV:=.tuple [tyT r.1,I r.2]
theorem zco(m:Nat)(c:Cls)(e:V)(hc:ClsOk c)(he:ESmall e):zC (glE m) 78 [tv e,clT c] [] (zdz (z2q c e)) []:=by
 have H1:=zdx (z4d m e he);have H2:=z28 (glE m) c hc;have H3:=zdL (glE m);have H4:=fun h=>zcU (glE m) c (.v (.slice none 0 0)) hc.len 8 e h he;unfold z2q;refine za tf_68 ?_;unfold clT zdz tyT B at*;cases h1:z0q e
 ·rw[h1]at H1;simp only[vW,seval,cmV];refine z1t H1 ?_;rfl
 rw[h1]at H1;have H4:=H4 (z7H h1).1;rw[if_pos rfl];cases h2:zn c
 ·rw[h2]at H2;simp only[vW,seval,cmV];refine z1t H1 ?_;refine z1t H2 ?_;rfl
 rw[h2]at H2;rw[if_pos rfl];unfold tyB scp B at H4;cases h3:(zl c.fs 8 e).2
 ·rw[h3]at H4;simp only[vW,seval,cmV];refine z1t H1 ?_;refine z1t H2 ?_;refine z1t H3 ?_;refine z1t H4 ?_;rfl
 ·rw[h3]at H4;simp only[vW,seval,cmV];refine z1t H1 ?_;refine z1t H2 ?_;refine z1t H3 ?_;exact zdJ H4
def zhn(r:V×Int):TV:=if r.2=0 then .tuple [tv r.1,I 0] else .tuple [nv V.nil,I r.2]
theorem zjc(m:Nat)(c:Cls)(e:V)(vals:List V)(hc:ClsOk c)(he:ESmall e)(hf:∀x∈vals,VFew x∧VOk x)(hl:vals.length≤4611686018427387904):zC (glE m) 37 [tv e,clT c,.pv (.sl 4 (V.rows vals))] [] (zhn (z4c c vals e)) []:=by
 have H1:=zco m c e hc he;have H2:=zdx (z7R m c vals hc (fun x hx=>⟨(hf x hx).2,by have:=(hf x hx).1.len;unfold maxLen;omega⟩) hl);have H3:=zdL (glE m);unfold z4c;refine za tf_67 ?_;unfold clT zhn zdz tyT z5D at*;obtain⟨t,ht⟩:∃t,z2q c e=t:=⟨_,rfl⟩
 obtain⟨k,hk⟩:∃k,z1Z c vals=k:=⟨_,rfl⟩
 rw[ht]at H1 ⊢;rw[hk]at H2 ⊢;by_cases h1:t.2=0
 ·rw[if_neg (c:=t.2≠0) (by omega)];by_cases h2:k.2=0
  ·rw[if_neg (c:=k.2≠0) (by omega)];obtain⟨h3,h4⟩:z0q e=true∧(zl c.fs 8 e).2=true:=by
    unfold z2q at ht;rw[←ht]at h1;cases h5:z0q e
    ·rw[h5]at h1;cases h1
    ·cases h6:(zl c.fs 8 e).2
     ·rw[h5,h6]at h1;cases h7:zn c<;>rw[h7]at h1<;>cases h1
     ·exact⟨rfl,rfl⟩
   have H4:=zfj m c vals ⟨hc.len,ziS (by rw[hk];exact h2),fun v hv=>(hf v hv).1⟩ 8 e (z7H h3).1 he h4;obtain⟨r,hr⟩:∃r,z1I c.fs vals 8 e=r:=⟨_,rfl⟩
   rw[hr]at H4 ⊢;rw[if_pos rfl];unfold scp at H4;unfold tv at*;simp only[vW,seval,cmV];refine z1L H1 ?_;simp only[vW,seval,cmV,h1];refine z1L H2 ?_;simp only[vW,seval,cmV,h2];refine z1t H3 ?_;exact zdJ H4
  ·rw[if_pos (c:=k.2≠0) h2,if_neg (c:=k.2=0) h2];simp only[vW,seval,cmV];refine z1L H1 ?_;simp only[vW,seval,cmV,h1];refine z1L H2 ?_;simp only[vW,seval,cmV,h2];rfl
 ·rw[if_pos (c:=t.2≠0) h1,if_neg (c:=t.2=0) h1];simp only[vW,seval,cmV];refine z1L H1 ?_;simp only[vW,seval,cmV,h1];rfl
end
end Go.Proofs.YtcpaleaajdilgaaGreatDoor
end
