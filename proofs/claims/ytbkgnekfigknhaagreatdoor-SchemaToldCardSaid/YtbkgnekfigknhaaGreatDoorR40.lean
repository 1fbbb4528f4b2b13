/- Merged texts: Pf1 Pe5 Ln7 Ln8 Pe10 Ln9 Cd11 Yb1 Yb2 Yd1 Zx2 Pe7 Zg11. No statement of the program is proved here. -/
import Derived.Test.YtbkgnekfigknhaaGreatDoorR39
set_option linter.unusedSimpArgs false
set_option linter.unusedVariables false
set_option maxRecDepth 100000
set_option maxHeartbeats 8000000
section
namespace Go.Mor
open Go
theorem z2W{L:List Pc}{sz p:Nat}(h:(pkP L sz p).k≠0):p<L.length:=by
 unfold pkP at h;by_cases hp:p<L.length
 ·exact hp
 ·rw[List.getElem?_eq_none (by omega)]at h;simp at h
theorem zjL{L:List Pc}{sz p:Nat}{t:zB}(h:zY (pkP L sz p) t=true):p<L.length:=by
 unfold zY at h;simp only[Bool.and_eq_true,beq_iff_eq]at h;exact z2W (sz:=sz) (by rw[h.1];decide)
theorem zkx(L:List Pc)(sz:Nat):∀f:Nat,
  (∀least p,4*(L.length+1-p)+3≤f→∃r,pE L sz f least p=some r∧∀e q,r=.ok e q→p<q∧p<L.length)∧
  (∀least e p,4*(L.length+1-p)+1≤f→∃r,pL L sz f least e p=some r∧∀e q,r=.ok e q→p≤q)∧
  (∀p,4*(L.length+1-p)+2≤f→∃r,pT L sz f p=some r∧∀e q,r=.ok e q→p<q∧p<L.length)∧
  (∀n k p acc,4*(L.length+1-p)+4≤f→∃r,pH L sz f n k p acc=some r∧∀e q,r=.ok e q→p<q)
 |0=>⟨fun _ _ h=>by omega,fun _ _ _ h=>by omega,fun _ h=>by omega,fun _ _ _ _ h=>by omega⟩
 |f+1=>by
  obtain⟨hE,hL,hT,hH⟩:=zkx L sz f;refine⟨fun least p hf=> ?_,fun least e p hf=> ?_,fun p hf=> ?_,fun n k p acc hf=> ?_⟩
  ·rw[pE];obtain⟨r,e1,e2⟩:=hT p (by omega);rw[e1];cases r with
   |bad a q=>exact⟨_,rfl,fun _ _ h=>by cases h⟩
   |ok e q=>
    have hq:=e2 e q rfl;obtain⟨r',g1,g2⟩:=hL least e q (by omega);exact⟨r',g1,fun e' q' h=>by have:=g2 e' q' h;omega⟩
  ·rw[pL];split
   ·exact⟨_,rfl,fun _ _ h=>by cases h;exact Nat.le_refl _⟩
   ·rename_i hc;have hp:p<L.length:=z2W (sz:=sz) (by intro h0;exact hc (.inl (by rw[h0];decide)));obtain⟨r,e1,e2⟩:=hE (zf (pkP L sz p).s+1) (p+1) (by omega);rw[e1];cases r with
    |bad a q=>exact⟨_,rfl,fun _ _ h=>by cases h⟩
    |ok e' q=>
     have hq:=e2 e' q rfl;obtain⟨r',g1,g2⟩:=hL least (.mk 4 0 (pkP L sz p).s [e,e']) q (by omega);exact⟨r',g1,fun e' q' h=>by have:=g2 e' q' h;omega⟩
  ·rw[pT];split
   ·rename_i hc;have hp:=zjL hc;obtain⟨r,e1,e2⟩:=hE 1 (p+1) (by omega);rw[e1];cases r with
    |bad a q=>exact⟨_,rfl,fun _ _ h=>by cases h⟩
    |ok e' q=>
     have hq:=e2 e' q rfl
     dsimp only
     split
     ·exact⟨_,rfl,fun _ _ h=>by cases h;omega⟩
     ·exact⟨_,rfl,fun _ _ h=>by cases h⟩
   split
   ·rename_i hc;have hp:=zjL hc;obtain⟨r,e1,e2⟩:=hT (p+1) (by omega);rw[e1];cases r with
    |bad a q=>exact⟨_,rfl,fun _ _ h=>by cases h⟩
    |ok e' q=>
     have hq:=e2 e' q rfl;exact⟨_,rfl,fun _ _ h=>by cases h;omega⟩
   split
   ·rename_i hk;have hp:p<L.length:=z2W (sz:=sz) (by rw[hk];decide);exact⟨_,rfl,fun _ _ h=>by cases h;omega⟩
   split
   ·rename_i hk;have hp:p<L.length:=z2W (sz:=sz) (by rw[hk];decide);exact⟨_,rfl,fun _ _ h=>by cases h;omega⟩
   split
   ·rename_i hk;have hp0:p<L.length:=z2W (sz:=sz) (by rw[hk];decide);split
    ·rename_i hc;have hp:=zjL hc.2;obtain⟨r,e1,e2⟩:=hH (zm (pkP L sz p).s).toNat 0 (p+2) [] (by omega);rw[e1];cases r with
     |bad a q=>exact⟨_,rfl,fun _ _ h=>by cases h⟩
     |ok e' q=>
      have hq:=e2 e' q rfl;exact⟨_,rfl,fun _ _ h=>by cases h;omega⟩
    ·exact⟨_,rfl,fun _ _ h=>by cases h;omega⟩
   ·exact⟨_,rfl,fun _ _ h=>by cases h⟩
  ·rw[pH];split
   ·split
    ·exact⟨_,rfl,fun _ _ h=>by cases h⟩
    ·have h0:p≤(if 0<k then p+1 else p):=by split<;>omega
     generalize(if 0<k then p+1 else p)=p0 at*;obtain⟨r,e1,e2⟩:=hE 1 p0 (by omega);rw[e1];cases r with
     |bad a q=>exact⟨_,rfl,fun _ _ h=>by cases h⟩
     |ok e' q=>
      have hq:=e2 e' q rfl;obtain⟨r',g1,g2⟩:=hH n (k+1) q (acc++[e']) (by omega);exact⟨r',g1,fun e' q' h=>by have:=g2 e' q' h;omega⟩
   ·split
    ·exact⟨_,rfl,fun _ _ h=>by cases h;omega⟩
    ·exact⟨_,rfl,fun _ _ h=>by cases h⟩
theorem zru(L:List Pc)(sz:Nat):∀f:Nat,
  (∀least p r,pE L sz f least p=some r→pE L sz (f+1) least p=some r)∧
  (∀least e p r,pL L sz f least e p=some r→pL L sz (f+1) least e p=some r)∧
  (∀p r,pT L sz f p=some r→pT L sz (f+1) p=some r)∧
  (∀n k p acc r,pH L sz f n k p acc=some r→pH L sz (f+1) n k p acc=some r)
 |0=>⟨fun _ _ _ h=>by simp[pE]at h,fun _ _ _ _ h=>by simp[pL]at h,fun _ _ h=>by simp[pT]at h,fun _ _ _ _ _ h=>by simp[pH]at h⟩
 |f+1=>by
  obtain⟨hE,hL,hT,hH⟩:=zru L sz f;refine⟨fun least p r h=> ?_,fun least e p r h=> ?_,fun p r h=> ?_,fun n k p acc r h=> ?_⟩
  ·rw[pE]at h ⊢;cases e1:pT L sz f p with
   |none=>rw[e1]at h;cases h
   |some x=>
    rw[e1]at h;rw[hT p x e1];cases x with
    |bad a q=>exact h
    |ok e q=>exact hL _ _ _ _ h
  ·rw[pL]at h ⊢;split at h
   ·rename_i hc;rw[if_pos hc];exact h
   ·rename_i hc;rw[if_neg hc];cases e1:pE L sz f (zf (pkP L sz p).s+1) (p+1)with
    |none=>rw[e1]at h;cases h
    |some x=>
     rw[e1]at h;rw[hE _ _ x e1];cases x with
     |bad a q=>exact h
     |ok e q=>exact hL _ _ _ _ h
  ·rw[pT]at h ⊢;split at h
   ·rename_i hc;rw[if_pos hc];cases e1:pE L sz f 1 (p+1)with
    |none=>rw[e1]at h;cases h
    |some x=>rw[e1]at h;rw[hE _ _ x e1];exact h
   rename_i hc;rw[if_neg hc];split at h
   ·rename_i hc;rw[if_pos hc];cases e1:pT L sz f (p+1)with
    |none=>rw[e1]at h;cases h
    |some x=>rw[e1]at h;rw[hT _ x e1];exact h
   rename_i hc;rw[if_neg hc];split at h
   ·rename_i hc;rw[if_pos hc];exact h
   rename_i hc;rw[if_neg hc];split at h
   ·rename_i hc;rw[if_pos hc];exact h
   rename_i hc;rw[if_neg hc];split at h
   ·rename_i hc;rw[if_pos hc];split at h
    ·rename_i hc;rw[if_pos hc];cases e1:pH L sz f (zm (pkP L sz p).s).toNat 0 (p+2) []with
     |none=>rw[e1]at h;cases h
     |some x=>rw[e1]at h;rw[hH _ _ _ _ x e1];exact h
    ·rename_i hc;rw[if_neg hc];exact h
   ·rename_i hc;rw[if_neg hc];exact h
  ·rw[pH]at h ⊢;split at h
   ·rename_i hc;rw[if_pos hc];split at h
    ·rename_i hc;rw[if_pos hc];exact h
    ·rename_i hc;rw[if_neg hc];cases e1:pE L sz f 1 (if 0<k then p+1 else p)with
     |none=>rw[e1]at h;cases h
     |some x=>
      rw[e1]at h;rw[hE _ _ x e1];cases x with
      |bad a q=>exact h
      |ok e q=>exact hH _ _ _ _ _ h
   ·rename_i hc;rw[if_neg hc];exact h
theorem zhF{L:List Pc}{sz f g:Nat}(hg:f≤g){least:Int}{p:Nat}{r:Rs V}(h:pE L sz f least p=some r):pE L sz g least p=some r:=by
 induction hg with
 |refl=>exact h
 |step _ ih=>exact(zru L sz _).1 _ _ _ ih
theorem zhO:∀(l:zB) (n:Int) (z:Nat),z≤(z0v l n z).2
 |[],_,_=>Nat.le_refl _
 |b::r,n,z=>by
  rw[z0v];split
  ·have:=zhO r (min (10*n+((b.toNat:Int) - 48)) 1000000000000001) (z+1);omega
  ·exact Nat.le_refl _
theorem zcI:∀(m:Nat) (l acc:zB) (k:Nat) (t:zB) (z:Nat),l.length≤m→quoG l acc k=some (t,z)→k≤z
 |m,[],acc,k,t,z,_,h=>by simp[quoG]at h
 |0,b::r,acc,k,t,z,hm,h=>by simp at hm
 |m+1,b::r,acc,k,t,z,hm,h=>by
  simp only[List.length_cons]at hm;rw[quoG.eq_def]at h
  dsimp only at h
  split at h
  ·split at h
   ·cases h;omega
   ·cases h
  ·split at h
   ·split at h
    ·cases h
    ·rename_i c r';simp only[List.length_cons]at hm;split at h
     ·have:=zcI m r' _ _ t z (by omega) h;omega
     ·cases h
   ·have:=zcI m r _ _ t z (by omega) h;omega
theorem znU{l:zB}{p z:Nat}{q:Pc}(h:z08 l p=some (q,z)):1≤z:=by
 unfold z08 at h;split at h
 ·cases h
 ·rename_i b r;split at h
  ·rename_i hd;split at h
   ·cases h
   ·cases h;rw[z0v,if_pos hd];exact zhO _ _ _
  split at h
  ·split at h
   ·rename_i hn;cases h;by_cases h0:z0C (b::r)=0
    ·rw[h0]at hn;simp[zb]at hn
    ·omega
   ·cases h
  split at h
  ·split at h
   ·rename_i t k hq;cases h;exact zcI _ _ _ _ _ _ (Nat.le_refl _) hq
   ·cases h
  split at h
  ·cases h
  ·rename_i hs;cases h;exact List.length_pos_iff.2 hs
theorem zcB:∀(f:Nat) (l:zB) (p:Nat) (acc L:List Pc),lexG f l p acc=some (.ok L)→L.length≤acc.length+l.length
 |0,_,_,_,_,h=>by simp[lexG]at h
 |f+1,l,p,acc,L,h=>by
  rw[lexG.eq_def]at h
  dsimp only at h
  split at h
  ·cases h;omega
  ·split at h
   ·have:=zcB f _ _ _ _ h;simp only[List.length_cons];omega
   ·split at h
    ·cases h
    ·rename_i q z hz;have:=zcB f _ _ _ _ h;simp only[List.length_append,List.length_cons,List.length_nil,List.length_drop]at this ⊢;have hz:1≤z:=znU hz;omega
theorem zjf{f:Nat}{s:zB}{r:V×Int×Int}(h:z14 f s=some r):z14 1000 s=some r:=by
 unfold z14 at h ⊢;split at h
 ·rename_i hc;rw[if_pos hc];exact h
 ·rename_i hc;rw[if_neg hc];cases hl:lexG (s.length+1) s 0 []with
  |none=>rw[hl]at h;cases h
  |some x=>
   rw[hl]at h;cases x with
   |bad a=>exact h
   |ok L=>
    dsimp only at h ⊢
    have hL:=zcB _ _ _ _ _ hl;simp only[List.length_nil]at hL;obtain⟨r',e1,_⟩:=(zkx L s.length 1000).1 1 0 (by omega);cases e2:pE L s.length f 1 0 with
    |none=>rw[e2]at h;cases h
    |some x=>
     have h1:=zhF (Nat.le_max_left f 1000) e2;have h2:=zhF (Nat.le_max_right f 1000) e1;rw[h1]at h2;cases h2;rw[e2]at h;rw[e1];exact h
section
def zcw:Fld:=⟨[],ty0,false⟩
def txF:List (zB):=[[],[97],[98,32,99],[195,169,116,195,169]]
def txT:List (zB):=[[],[97],[98,32,99],[195,169,116,195,169],[45,55],[122,122]]
def cl3:List (zB):=[[108,101,102,116],[114,105,103,104,116],[102,114,111,109]]
def cl2:List (zB):=[[108,101,110],[110,117,109]]
def clMM:List (zB):=[[109,105,110],[109,97,120]]
def cmpM:List (zB):=[[61],[60,62],[60],[60,61],[62],[62,61]]
def sumM:List (zB):=[[43],[45],[42],[47],[37]]
def z67(fs:List Fld)(kind:Int)(n:Nat):V:=
 match(List.range fs.length).find? (fun i=>(fs.getD ((i+n)%fs.length) zcw).t.k==kind)with
 |some i=> .mk 3 0 (fs.getD ((i+n)%fs.length) zcw).n []
 |none=>if kind=1 then .mk 1 n [] [] else .mk 2 0 (txF.getD (n%4) []) []
def z4t(l:zB)(fs:List Fld)(kind:Int)(a:Nat):V×Nat:=(z67 fs kind (nxB l a).1,(nxB l a).2)
def z1v(t:Int→Nat→V×Nat):List Int→Nat→List V×Nat
 |[],a=>([],a)
 |k::r,a=>((t k a).1::(z1v t r (t k a).2).1,(z1v t r (t k a).2).2)
def callM(t:Int→Nat→V×Nat)(s:zB)(ks:List Int)(a:Nat):V×Nat:=(.mk 6 0 s (z1v t ks a).1,(z1v t ks a).2)
def z5G(t:Int→Nat→V×Nat)(s:zB)(k:Int)(a:Nat):V×Nat:=(.mk 4 0 s [(t k a).1,(t k (t k a).2).1],(t k (t k a).2).2)
def z0l(l:zB)(fs:List Fld):Nat→Int→Nat→V×Nat
 |0,kind,a=>z4t l fs kind a
 |d+1,kind,a0=>
  let a:=(nxB l a0).2
  let k:=if d=0 then(nxB l a0).1%2 else(nxB l a0).1
  let b:=(nxB l a).2
  let x:=(nxB l a).1
  let t:=z0l l fs d
  if kind=2 then
   if k%8=0 then z4t l fs kind a
   else if k%8=1 then(.mk 2 0 (txT.getD (x%6) []) [],b)
   else if k%8=2 then callM t z1l [1] a
   else if k%8=3 then callM t (cl3.getD (x%3) []) [2,1] b
   else if k%8=4 then callM t nIf [1,2,2] a
   else z5G t [38] 2 a
  else
   if k%10=0 then z4t l fs kind a
   else if k%10=1 then(.mk 1 (x*muM.getD ((nxB l b).1%4) 0) [] [],(nxB l b).2)
   else if k%10=2 then(.mk 5 0 [45] [(t 1 a).1],(t 1 a).2)
   else if k%10=3 then callM t (cl2.getD (x%2) []) [2] b
   else if k%10=4 then callM t z2l [2,2] a
   else if k%10=5 then callM t (clMM.getD (x%2) []) [1,1] b
   else if k%10=6 then callM t nIf [1,1,1] a
   else if k%10=7 then z5G t (cmpM.getD (x%6) []) (1+((nxB l b).1%2:Nat)) (nxB l b).2
   else z5G t (sumM.getD (x%5) []) 1 b
def z0s(l:zB)(fs:List Fld)(kind:Int):V:=
 if z0b (z0l l fs 4 kind 0).1 then(z0l l fs 4 kind 0).1 else(z4t l fs kind (z0l l fs 4 kind 0).2).1
def ntE(fs:List Fld):Nat→V→Prop
 |0,_=>True
 |d+1,e=>(e.k=3→∃(i:Nat) (f:Fld),fieldAt fs e.s=i∧fs[i]?=some f∧f.n=e.s∧f.t.o=0∧(f.t.k=1∨f.t.k=2))∧∀x∈e.l,ntE fs d x
def z4M(fs:List Fld)(d:Nat)(kind:Int)(e:V):Prop:=okE d e=true∧zl fs d e=(⟨kind,0⟩,true)∧ntE fs d e
theorem zhM{fs:List Fld}{d:Nat}{e:V}(h3:e.k≠3)(hl:e.l=[]):ntE fs (d+1) e:=⟨fun h=>absurd h h3,by rw[hl];intro x hx;cases hx⟩
theorem zn8{α:Type}(l:List α)(i:Nat)(d:α)(h:i<l.length):l.getD i d∈l:=by
 grind
theorem zp2(l:zB)(a:Nat):(nxB l a).1<256:=by
 grind [nxB,UInt8.toNat_lt]
section
variable{l:zB}{c:Cls}(hc:GoodC c)
theorem z9j{fs:List Fld}{d:Nat}{e:V}(hl:e.l=[]):zl fs (d+1) e=z2m fs e []:=by unfold zl;rw[hl];rfl
theorem zft{fs:List Fld}{d:Nat}{n:Int}(h0:0≤n)(h1:n≤1000000000000000):z4M fs (d+1) 1 (.mk 1 n [] []):=by
 refine⟨?_,by rw[z9j rfl];rfl,zhM (by simp[V.k]) rfl⟩
 grind [okE,z0p,V.k,V.n,V.s,V.l]
theorem zds{fs:List Fld}{d:Nat}{s:zB}(h:zi s=true):z4M fs (d+1) 2 (.mk 2 0 s []):=by
 refine⟨?_,by rw[z9j rfl];rfl,zhM (by simp[V.k]) rfl⟩;simp[okE,z0p,V.k,V.n,V.s,V.l,h]
include hc in
theorem zkY{d:Nat}{f:Fld}(hf:f∈c.fs){kind:Int}(hk:f.t.k=kind)(h12:kind=1∨kind=2):z4M c.fs (d+1) kind (.mk 3 0 f.n []):=by
 obtain⟨hr,_⟩:=hc.fs f hf;unfold zF at hr;simp only[Bool.and_eq_true]at hr;obtain⟨i,hi⟩:=List.getElem?_of_mem hf;have ha:=zcq hc.di hi;have ho:f.t.o=0:=by
  grind [zg]
 refine⟨by simp[okE,z0p,V.k,V.n,V.s,V.l,hr.1.1],?_,⟨fun _=>⟨i,f,ha,hi,rfl,ho,by omega⟩,fun x hx=>by cases hx⟩⟩;rw[z9j rfl];unfold z2m;rw[if_neg (by simp[V.k]),if_pos (show(V.mk 3 0 f.n []).k=3 from rfl),show fieldAt c.fs (V.mk 3 0 f.n []).s=i from ha,if_neg (by omega),Int.toNat_natCast,z4T hi];obtain⟨n,⟨k,o⟩,ix⟩:=f
 grind
include hc in
theorem z7K{d:Nat}{kind:Int}(h12:kind=1∨kind=2)(a:Nat):z4M c.fs (d+1) kind (z4t l c.fs kind a).1:=by
 unfold z4t z67;have hn:=zp2 l a;generalize(nxB l a).1=n at hn;cases hf:(List.range c.fs.length).find? (fun i=>(c.fs.getD ((i+n)%c.fs.length) zcw).t.k==kind)with
 |some i=>
  grind [List.mem_of_find?_eq_some,zkY,zn8,Nat.mod_lt]
 |none=>
  rcases h12 with rfl|rfl
  ·grind [zft]
  ·refine zds ?_;have:∀i:Nat,i<4→zi (txF.getD i [])=true:=by
    intro i hi;have:i=0∨i=1∨i=2∨i=3:=by omega
    rcases this with rfl|rfl|rfl|rfl<;>rfl
   grind
theorem zbG{fs:List Fld}{d:Nat}{t:Int→Nat→V×Nat}(ht:∀k a,(k=1∨k=2)→z4M fs d k (t k a).1):∀(ks:List Int) (a:Nat),(∀k∈ks,k=1∨k=2)→
  (z1v t ks a).1.length=ks.length∧(∀x∈(z1v t ks a).1,okE d x=true∧ntE fs d x)∧z0z (zl fs d) (z1v t ks a).1=some (ks.map fun k=>⟨k,0⟩)
 |[],a,_=>⟨rfl,(by simp[z1v]),rfl⟩
 |k::r,a,h=>by
  obtain⟨h1,h2,h3⟩:=zbG ht r (t k a).2 (fun x hx=>h x (List.mem_cons_of_mem _ hx));have hm:=ht k a (h k (List.mem_cons_self ..));refine⟨by simp only[z1v,List.length_cons,h1],fun x hx=> ?_,?_⟩
  ·simp only[z1v]at hx;rcases List.mem_cons.1 hx with rfl|hx
   ·exact⟨hm.1,hm.2.2⟩
   ·grind
  ·simp only[z1v,z0z,hm.2.1,if_true,h3,Option.map_some,List.map_cons]
theorem z3o{fs:List Fld}{d:Nat}{t:Int→Nat→V×Nat}(ht:∀k a,(k=1∨k=2)→z4M fs d k (t k a).1){s:zB}{ks:List Int}{kind:Int}(a:Nat)(hk:∀k∈ks,k=1∨k=2)
  (h1:0<zm s) (h2:(ks.length:Int)=zm s) (h3:z6s s (ks.map fun k=>⟨k,0⟩)=(⟨kind,0⟩,true)):z4M fs (d+1) kind (callM t s ks a).1:=by
 obtain⟨q1,q2,q3⟩:=zbG ht ks a hk;refine⟨?_,?_,fun h=>by simp[callM,V.k]at h,fun x hx=>(q2 x hx).2⟩
 ·rw[okE,Bool.and_eq_true,List.all_eq_true]
  grind [z0p,callM,V.k,V.n,V.s,V.l]
 ·unfold zl;simp only[callM,V.l,q3];exact h3
theorem zaP{fs:List Fld}{d:Nat}{t:Int→Nat→V×Nat}(ht:∀k a,(k=1∨k=2)→z4M fs d k (t k a).1){s:zB}{k kind:Int}(a:Nat)(hk:k=1∨k=2)(h1:0<zf s)
  (h3:zbL s [⟨k,0⟩,⟨k,0⟩]=(⟨kind,0⟩,true)):z4M fs (d+1) kind (z5G t s k a).1:=by
 have m1:=ht k a hk;have m2:=ht k (t k a).2 hk;have hx2:∀x∈(z5G t s k a).1.l,okE d x=true∧ntE fs d x:=fun x hx=>by
  simp only[z5G,V.l,List.mem_cons,List.not_mem_nil,or_false]at hx;rcases hx with rfl|rfl
  ·exact⟨m1.1,m1.2.2⟩
  ·exact⟨m2.1,m2.2.2⟩
 refine⟨?_,?_,fun h=>by simp[z5G,V.k]at h,fun x hx=>(hx2 x hx).2⟩
 ·rw[okE,Bool.and_eq_true,List.all_eq_true]
  grind [z0p,z5G,V.k,V.n,V.s,V.l]
 ·unfold zl;simp only[z5G,V.l,z0z,m1.2.1,m2.2.1,if_true,Option.map_some];exact h3
include hc in
theorem zdt:∀(d:Nat) (kind:Int) (a:Nat),(kind=1∨kind=2)→z4M c.fs (d+1) kind (z0l l c.fs (d+1) kind a).1:=by
 have key:∀(d:Nat),(d=0∨∀k a,(k=1∨k=2)→z4M c.fs d k (z0l l c.fs d k a).1)→∀(kind:Int) (a:Nat),(kind=1∨kind=2)→z4M c.fs (d+1) kind (z0l l c.fs (d+1) kind a).1:=by
  intro d hd kind a0 h12;unfold z0l;simp only[];generalize(nxB l a0).2=a;have hx:=zp2 l a;generalize hk:(if d=0 then(nxB l a0).1%2 else(nxB l a0).1)=k;generalize(nxB l a).2=b;generalize(nxB l a).1=x at hx;have ht:¬k<2→∀k a,(k=1∨k=2)→z4M c.fs d k (z0l l c.fs d k a).1:=fun h=>by
   grind
  have in6:∀i:Nat,i<6→zi (txT.getD i [])=true:=by
   intro i hi;have:i=0∨i=1∨i=2∨i=3∨i=4∨i=5:=by omega
   rcases this with rfl|rfl|rfl|rfl|rfl|rfl<;>rfl
  rcases h12 with rfl|rfl
  ·rw[if_neg (by omega)];by_cases q0:k%10=0
   ·grind [z7K]
   rw[if_neg q0];by_cases q1:k%10=1
   ·grind [Nat.mod_lt,nxB,muM,zft,Int.mul_nonneg,Int.mul_le_mul]
   rw[if_neg q1];have T:=ht (by omega);by_cases q2:k%10=2
   ·rw[if_pos q2];have m:=T 1 a (.inl rfl);refine⟨?_,?_,fun h=>by simp[V.k]at h,fun y hy=> ?_⟩
    ·rw[okE,Bool.and_eq_true,List.all_eq_true];refine⟨by simp[z0p,V.k,V.n,V.s,V.l],fun y hy=> ?_⟩;simp only[V.l,List.mem_cons,List.not_mem_nil,or_false]at hy;subst hy;exact m.1
    ·unfold zl;simp only[V.l,z0z,m.2.1,if_true,Option.map_some];rfl
    ·simp only[V.l,List.mem_cons,List.not_mem_nil,or_false]at hy;subst hy;exact m.2.2
   rw[if_neg q2];by_cases q3:k%10=3
   ·rw[if_pos q3];have h2:=Nat.mod_lt x (show 0<2 by omega);generalize x%2=i at h2;have:i=0∨i=1:=by omega
    rcases this with rfl|rfl<;>exact z3o T b (by simp) (by decide) (by decide) rfl
   rw[if_neg q3];by_cases q4:k%10=4
   ·rw[if_pos q4];exact z3o T a (by simp) (by decide) (by decide) rfl
   rw[if_neg q4];by_cases q5:k%10=5
   ·rw[if_pos q5];have h2:=Nat.mod_lt x (show 0<2 by omega);generalize x%2=i at h2;have:i=0∨i=1:=by omega
    rcases this with rfl|rfl<;>exact z3o T b (by simp) (by decide) (by decide) rfl
   rw[if_neg q5];by_cases q6:k%10=6
   ·rw[if_pos q6];exact z3o T a (by simp) (by decide) (by decide) rfl
   rw[if_neg q6];by_cases q7:k%10=7
   ·rw[if_pos q7];have h2:=Nat.mod_lt x (show 0<6 by omega);generalize x%6=i at h2;have h3:=Nat.mod_lt (nxB l b).1 (show 0<2 by omega);generalize(nxB l b).1%2=j at h3;have hj:j=0∨j=1:=by omega
    have:i=0∨i=1∨i=2∨i=3∨i=4∨i=5:=by omega
    rcases hj with rfl|rfl<;>rcases this with rfl|rfl|rfl|rfl|rfl|rfl<;>exact zaP T _ (by simp) (by decide) rfl
   rw[if_neg q7];have h2:=Nat.mod_lt x (show 0<5 by omega);generalize x%5=i at h2;have:i=0∨i=1∨i=2∨i=3∨i=4:=by omega
   rcases this with rfl|rfl|rfl|rfl|rfl<;>exact zaP T _ (by simp) (by decide) rfl
  ·rw[if_pos rfl];by_cases q0:k%8=0
   ·grind [z7K]
   rw[if_neg q0];by_cases q1:k%8=1
   ·grind [zds,Nat.mod_lt]
   rw[if_neg q1];have T:=ht (by omega);by_cases q2:k%8=2
   ·rw[if_pos q2];exact z3o T a (by simp) (by decide) (by decide) rfl
   rw[if_neg q2];by_cases q3:k%8=3
   ·rw[if_pos q3];have h2:=Nat.mod_lt x (show 0<3 by omega);generalize x%3=i at h2;have:i=0∨i=1∨i=2:=by omega
    rcases this with rfl|rfl|rfl<;>exact z3o T b (by simp) (by decide) (by decide) rfl
   rw[if_neg q3];by_cases q4:k%8=4
   ·rw[if_pos q4];exact z3o T a (by simp) (by decide) (by decide) rfl
   rw[if_neg q4];exact zaP T a (.inr rfl) (by decide) rfl
 intro d
 induction d<;>grind
end
theorem z9K:∀{d:Nat} {e:V} (d':Nat),d≤d'→okE d e=true→okE d' e=true
 |0,e,_,_,h=>by simp[okE]at h
 |d+1,e,0,hd,_=>by omega
 |d+1,e,d'+1,hd,h=>by
  rw[okE,Bool.and_eq_true,List.all_eq_true]at h ⊢;exact⟨h.1,fun x hx=>z9K d' (by omega) (h.2 x hx)⟩
theorem zad{t t':V→Ty×Bool}:∀{l:List V},(∀x∈l,t x=t' x)→z0z t l=z0z t' l
 |[],_=>rfl
 |x::l,h=>by unfold z0z;rw[h x (List.mem_cons_self ..),zad fun y hy=>h y (List.mem_cons_of_mem _ hy)]
theorem z9k{fs:List Fld}:∀{d:Nat} {e:V} (d':Nat),d≤d'→okE d e=true→zl fs d' e=zl fs d e
 |0,e,_,_,h=>by simp[okE]at h
 |d+1,e,0,hd,_=>by omega
 |d+1,e,d'+1,hd,h=>by
  rw[okE,Bool.and_eq_true,List.all_eq_true]at h;unfold zl;rw[zad fun x hx=>z9k d' (by omega) (h.2 x hx)]
theorem zjA{e:V}(h:okE 1 e=true):z0b e=true:=by
 have hl:e.l=[]:=by
  rw[okE,Bool.and_eq_true,List.all_eq_true]at h;cases hh:e.l with
  |nil=>rfl
  |cons x r=>have:=h.2 x (by grind);simp[okE]at this
 unfold z0b;rw[z9K 8 (by omega) h]
 grind [szE]
theorem zhN{fs:List Fld}:∀{d:Nat} {e:V} (d':Nat),okE d e=true→ntE fs d e→ntE fs d' e
 |0,e,_,h,_=>by simp[okE]at h
 |d+1,e,0,_,_=>trivial
 |d+1,e,d'+1,h,hn=>by
  rw[okE,Bool.and_eq_true,List.all_eq_true]at h;exact⟨hn.1,fun x hx=>zhN d' (h.2 x hx) (hn.2 x hx)⟩
theorem z4r{c:Cls}(hc:GoodC c)(l:zB){kind:Int}(h12:kind=1∨kind=2):z0b (z0s l c.fs kind)=true∧zl c.fs 8 (z0s l c.fs kind)=(⟨kind,0⟩,true)∧okE 4 (z0s l c.fs kind)=true∧ntE c.fs 4 (z0s l c.fs kind):=by
 unfold z0s;have hm:=zdt hc (l:=l) 3 kind 0 h12;cases hr:z0b (z0l l c.fs 4 kind 0).1
 ·have hf:=z7K hc (l:=l) (d:=0) h12 (z0l l c.fs 4 kind 0).2;simp only[Bool.false_eq_true,if_false];exact⟨zjA hf.1,by rw[z9k 8 (by omega) hf.1];exact hf.2.1,z9K 4 (by omega) hf.1,zhN 4 hf.1 hf.2.2⟩
 ·simp only[if_true];exact⟨hr,by rw[z9k 8 (by omega) hm.1];exact hm.2.1,hm.1,hm.2.2⟩
end
def qn:zB:=[113,117,105,116,101,95,110,101,119]
def qnC(kind:Int)(s:zB):Chg:=⟨1,[],qn,[],⟨kind,0⟩,s,[]⟩
theorem zbR{e:V}(hr:z0b e=true)(hl:(zy 8 e).length≤200):z14 1000 (zy 8 e)=some (e,0,0)∧zy 8 e≠[]:=by
 obtain⟨f,hf⟩:=zfK hr 0 hl;have h:=zjf hf;refine⟨h,fun h0=> ?_⟩;have h:z14 1000 (zy 8 e)=some (e,0,0):=h;rw[h0]at h;have:z14 1000 []=some (V.nil,0,50):=by kernel_rfl
 rw[this]at h;cases h
theorem zp6{c:Cls}(hg:GoodC c)(hn:∀f∈c.fs,f.n≠qn){e:V}{kind:Int}(hk:kind=1∨kind=2)(hr:z0b e=true)(ht:z1Y c e=(⟨kind,0⟩,0))(hl:(zy 8 e).length≤200):
  okV c (qnC kind (zy 8 e))=true∧∀vals,z0K c (qnC kind (zy 8 e)) vals=vals++[(z2Q c vals e).1]:=by
 obtain⟨hp,hne⟩:=zbR hr hl;have hrd:rdV (zy 8 e)=(e,0,0):=by unfold rdV;rw[hp];rfl
 have htl:zE c (zy 8 e) ⟨kind,0⟩=.ev e:=by
  unfold zE;rw[if_neg hne,hrd];simp[ht,z0i]
 have hfr:z2v c.fs qn []=true:=by
  unfold z2v;have:fieldAt c.fs qn<0:=by
   unfold fieldAt;rw[z5f];intro f hf;simpa using hn f hf
  simp[this]
 have hlen:=hg.len;constructor
 ·unfold okV;have hw:z0g (qnC kind (zy 8 e))=true:=by
   unfold z0g qnC;rcases hk with rfl|rfl<;>simp[z0J,z1F,z3F,hrd,hne,zg]<;>decide
  have hm:z0G c (qnC kind (zy 8 e))=true:=by
   unfold z0G qnC;simp[hfr,htl,Tl.is];omega
  rw[hg.right,hw,hm];rfl
 ·intro vals;unfold z0K qnC;simp[htl,Tl.val]
def z3d(l:Ln)(r:RawH):Ln:=if okV (z0N l) (z1T r (z0N l))&& !((z1T r (z0N l)).f==qn)then⟨l.c,l.hs++[z1T r (z0N l)]⟩ else l
structure ToldL(c:Cls)(h0:Chg)(l:Ln):Prop where
 g:GoodL l
 c:l.c=c
 hs:∃zu,l.hs=h0::zu∧∀h∈zu,h.f≠qn
theorem zok{c:Cls}{h0:Chg}{l:Ln}(h:ToldL c h0 l)(h12:l.hs.length<12)(r:RawH):ToldL c h0 (z3d l r)∧(z3d l r).hs.length≤l.hs.length+1:=by
 unfold z3d;by_cases ho:(okV (z0N l) (z1T r (z0N l))&& !((z1T r (z0N l)).f==qn))=true
 ·rw[if_pos ho];simp only[Bool.and_eq_true,Bool.not_eq_true',beq_eq_false_iff_ne]at ho;have hg:=znd h.g h12 r;unfold zmo at hg;rw[if_pos ho.1]at hg;obtain⟨zu,e1,e2⟩:=h.hs;refine⟨⟨hg,h.c,zu++[z1T r (z0N l)],by rw[e1];rfl,fun x hx=> ?_⟩,by simp⟩;rcases List.mem_append.1 hx with hx|hx
  ·exact e2 x hx
  ·obtain rfl:=List.mem_singleton.1 hx;exact ho.2
 ·rw[if_neg ho];exact⟨h,by omega⟩
theorem zdN{c:Cls}{h0:Chg}:∀(rs:List RawH) (l:Ln),ToldL c h0 l→l.hs.length+rs.length≤12→ToldL c h0 (rs.foldl z3d l)∧(rs.foldl z3d l).hs.length≤l.hs.length+rs.length
 |[],l,h,_=>⟨h,by simp⟩
 |r::rs,l,h,hl=>by
  simp only[List.length_cons]at hl;obtain⟨h1,h2⟩:=zok h (by omega) r;obtain⟨a,b⟩:=zdN rs (z3d l r) h1 (by omega);exact⟨a,by simp only[List.foldl_cons,List.length_cons];omega⟩
theorem zgl{c:Cls}{h0:Chg}{l:Ln}(h:ToldL c h0 l){v0:List V}(hf:FitC (zq l 0).1 v0){x:V}(h1:Fol l v0 x 1 qn):∀i,i+1≤l.hs.length→Fol l v0 x (i+1) qn
 |0,_=>h1
 |i+1,hi=>by
  have ih:=zgl h hf h1 i (by omega);obtain⟨zu,e1,e2⟩:=h.hs;obtain⟨y,hx⟩:∃y,l.hs[i+1]?=some y:=⟨_,gE hi⟩
  have hm:y∈zu:=by
   have hx:=hx;rw[e1]at hx;simp only[List.getElem?_cons_succ]at hx;exact gM hx
  have hne:=e2 _ hm;have:=zn2 h.g.r hf hx ih (.inr (.inl hne))
  rwa [if_neg (fun e=>hne e.2)]at this
section
open Go.RowKit
theorem z8G{c:Cls}(h:GoodC c)(l:zB){kind:Int}(hk:kind=1∨kind=2):z1Y c (z0s l c.fs kind)=(⟨kind,0⟩,0):=by
 obtain⟨h1,h2,_⟩:=z4r h l hk;unfold z1Y;rw[if_pos h1,if_pos h.right,h2];rfl
theorem zdq{c:Cls}(h:GoodC c)(l:zB){kind:Int}(hk:kind=1∨kind=2){vals:List V}(hc:check c vals=(0,0)):z2Q c vals (z0s l c.fs kind)=(z1g c.fs vals 8 (z0s l c.fs kind),0):=by
 unfold z2Q;rw[z8G h l hk,hc];rfl
end
section
theorem zrA(j:Int)(h0:0≤j)(h1:j<6):nmF j≠qn:=by
 have:j=0∨j=1∨j=2∨j=3∨j=4∨j=5:=by omega
 rcases this with rfl|rfl|rfl|rfl|rfl|rfl<;>decide
theorem zhs:∀(rs:List RawF) (acc:List Fld),(∀f∈acc,f.n≠qn)→∀f∈rs.foldl z1x acc,f.n≠qn
 |[],acc,h=>h
 |r::rs,acc,h=>by
  refine zhs rs _ fun f hf=> ?_;unfold z1x at hf;split at hf
  ·rcases List.mem_append.1 hf with hf|hf
   ·grind
   ·obtain rfl:=List.mem_singleton.1 hf;have h1:=zH r.n 6 (by omega);exact zrA _ h1.1 h1.2
  ·grind
theorem zbn(x:Raw):∀f∈(zn x).fs,f.n≠qn:=zhs _ [] (by simp)
def tl0(x:Raw)(l:zB)(kind:Int):Ln:=⟨zn x,[qnC kind (zy 8 (z0s l (zn x).fs kind))]⟩
def z9W(x:Raw)(l:zB)(kind:Int)(rs:List RawH):Ln:=(rs.take 4).foldl z3d (tl0 x l kind)
section
variable{x:Raw}{l:zB}{kind:Int}
theorem zca(hk:kind=1∨kind=2)(h2:(zy 8 (z0s l (zn x).fs kind)).length≤200):ToldL (zn x) (qnC kind (zy 8 (z0s l (zn x).fs kind))) (tl0 x l kind)∧
  (∀vals,z0K (zn x) (qnC kind (zy 8 (z0s l (zn x).fs kind))) vals=vals++[(z2Q (zn x) vals (z0s l (zn x).fs kind)).1]):=by
 have hg:=z2D x;obtain⟨hr,_⟩:=z4r hg l hk;obtain⟨ho,hv⟩:=zp6 hg (zbn x) hk hr (z8G hg l hk) h2;refine⟨⟨⟨?_,?_,fun h hh=> ?_⟩,rfl,[],rfl,fun h hh=>by cases hh⟩,hv⟩
 ·have h1:=zfe x;have e:z0N (⟨zn x,[]⟩:Ln)=zn x:=by simp[z0N,zq,z1R]
  have:=zaM h1.r (show 0<12 by decide) (h:=qnC kind (zy 8 (z0s l (zn x).fs kind))) (by rw[e];exact ho);exact this.1
 ·have h1:=zfe x;have e:z0N (⟨zn x,[]⟩:Ln)=zn x:=by simp[z0N,zq,z1R]
  have:=zaM h1.r (show 0<12 by decide) (h:=qnC kind (zy 8 (z0s l (zn x).fs kind))) (by rw[e];exact ho);have h3:z0N (tl0 x l kind)=_:=this.2;rw[h3,e];exact zbw ho (za7 x) ⟨fun _=>by show qn∈nmL;decide,fun h=>by simp[qnC]at h⟩
 ·obtain rfl:=List.mem_singleton.1 hh;exact⟨by simp[qnC],by show qn.length≤20;decide,by simp[qnC],.inr ⟨h2,_,(zbR hr h2).1⟩,.inl rfl⟩
theorem zgj(hk:kind=1∨kind=2)(h2:(zy 8 (z0s l (zn x).fs kind)).length≤200)(rs:List RawH){n:Nat}(hn:n≤4):
  ToldL (zn x) (qnC kind (zy 8 (z0s l (zn x).fs kind))) ((rs.take n).foldl z3d (tl0 x l kind))∧((rs.take n).foldl z3d (tl0 x l kind)).hs.length≤n+1:=by
 have hl:=List.length_take_le n rs;obtain⟨a,b⟩:=zdN (rs.take n) (tl0 x l kind) (zca hk h2).1 (by show 1+_≤12;omega);exact⟨a,by have:(tl0 x l kind).hs.length=1:=rfl;omega⟩
theorem zol(hk:kind=1∨kind=2)(h2:(zy 8 (z0s l (zn x).fs kind)).length≤200)(rs:List RawH){vals:List V}(hf:FitC (zn x) vals):
  Fol (z9W x l kind rs) vals (z1g (zn x).fs vals 8 (z0s l (zn x).fs kind)) (z9W x l kind rs).hs.length qn:=by
 have hg:=z2D x;obtain⟨hT,_⟩:=zgj hk h2 rs (n:=4) (Nat.le_refl _);have hv:=(zca hk h2).2 vals;rw[zdq hg l hk hf.chk]at hv;obtain⟨ho,_⟩:=zp6 hg (zbn x) hk (z4r hg l hk).1 (z8G hg l hk) h2;unfold z9W;generalize(rs.take 4).foldl z3d (tl0 x l kind)=ln at*;generalize z1g (zn x).fs vals 8 (z0s l (zn x).fs kind)=want at*;generalize zy 8 (z0s l (zn x).fs kind)=s at*;obtain⟨zu,e1,_⟩:=hT.hs;have hc:=hT.c;have hz:zq ln 0=(zn x,0):=by
  rw[z28];unfold z1R;rw[hc,hg.right];rfl
 have h0:ln.hs[0]?=some (qnC kind s):=by rw[e1];rfl
 have hv1:zq ln 1=(⟨(zn x).n,z07 (zn x) (qnC kind s)⟩,0):=by
  rw[z34 h0,hz,z3v _ rfl];unfold z0D;rw[hg.right,ho];rfl
 have hpos:0<ln.hs.length:=by rw[e1];simp
 have hc1:z3T ln 0 vals 1=vals++[want]:=by
  show z0K (zq ln (0+0)).1 (ln.hs.getD (0+0) ch0) vals=_;rw[List.getD_eq_getElem?_getD,h0,hz];exact hv
 have hfl:vals.length=(zn x).fs.length:=hf.len;have h1:Fol ln vals want 1 qn:=by
  refine⟨(zn x).fs.length,⟨qn,⟨kind,0⟩,false⟩,?_,rfl,?_⟩
  ·rw[hv1];show(z07 (zn x) (qnC kind s))[(zn x).fs.length]?=_;unfold z07 qnC;simp
  ·rw[hc1,←hfl];simp
 have:=zgl hT (v0:=vals) (by rw[hz];exact hf) h1 (ln.hs.length-1) (by omega)
 rwa [show ln.hs.length-1+1=ln.hs.length by omega]at this
end
end
end Go.Mor
end

section
namespace Go.Sh.Cd11
open Go Go.Sh
abbrev gQ(a:GA):Prop:=gT Go.Proofs.Tryz.prog a
theorem gK{a:GA}(h:gQ a:=by unfold gQ gT;kernel_rfl):gQ a:=h
theorem tf_184:gQ ⟨63,32,[(29,1)],[],[[6],[10013],[1000002,14],[0,6,14],[],[18021],[7,22025],[8009,26029],[1002,15017,30],[6,30031],[1002,15017]],[.tmp 6],false⟩:=gK
theorem tf_183:gQ ⟨65,32,[(29,1)],[],[[6],[10013],[1000002,14],[0,6,14],[],[18021],[7,22025],[8009,26029],[1002,15017,30],[6,30031],[1002,15017]],[.tmp 6],false⟩:=gK
noncomputable def funcs:Nat→Option SFunc
 |_=>none
end Go.Sh.Cd11
end

section
namespace Go.Proofs.YtbkgnekfigknhaaGreatDoor
open Go Go.RowKit Go.Mor Go.Sh Go.Sh.Cd1 Go.Sh.Cd7
section
open Go.Sh.Cd10 Go.Sh.Cd11
def z33{α:Type}(p:α→α→Bool):List α→List α→Bool
 |[],[]=>true
 |x::l,y::m=>p x y&&z33 p l m
 |_,_=>false
theorem z9e{α:Type}{p:α→α→Bool}:∀{a b:List α},a.length≠b.length→z33 p a b=false
 |[],[],h=>absurd rfl h
 |[],_::_,_=>rfl
 |_::_,[],_=>rfl
 |x::l,y::m,h=>by
  unfold z33;rw[z9e (a:=l) (b:=m) (fun e=>h (by simp[e])),Bool.and_false]
theorem zc3{α:Type}{p:α→α→Bool}{a b:List α}{i:Nat}{x y:α}(hx:a[i]?=some x)(hy:b[i]?=some y):z33 p (a.drop i) (b.drop i)=(p x y&&z33 p (a.drop (i+1)) (b.drop (i+1))):=by
 obtain⟨h1,rfl⟩:=gJ hx;obtain⟨h2,rfl⟩:=gJ hy;rw[List.drop_eq_getElem_cons h1,List.drop_eq_getElem_cons h2];rfl
theorem zpG(g:Sh.Glob)(a b:List Chg)(ha:a.length≤1000):zC g 65 [.pv (.sl 8 (z2b a)),.pv (.sl 8 (z2b b)),.pv (.v (.func (.func 66) #[] #[]))] [] (B (z33 z0m a b)) []:=by
 refine za tf_183 ?_;obtain⟨R,hR⟩:∃R,z33 z0m a b=R:=⟨_,rfl⟩
 rw[hR];unfold B;by_cases hlen:a.length=b.length
 ·have d0:(a.length:Int)=(b.length:Int):=by omega
  simp only[vW,seval,d0,z1h];refine zp (σ:={i:Nat // i≤a.length∧z33 z0m (a.drop i) (b.drop i)=R}) (fun i=>⟨[(1,.pv (.sl 8 (z2b b))),(2,.pv (.v (.func (.func 66) #[] #[]))),(15,.pv (.sl 8 (z2b a))),(16,I (b.length:Int)),(17,I (i.1:Int))],[],[],[]⟩) (fun i=>a.length-i.1) ⟨0,Nat.zero_le _,hR⟩ ?_ ?_
  ·exact lwA
  rintro⟨i,hi,hT⟩;by_cases hlt:i<a.length
  ·have d1:(i:Int)<(b.length:Int):=by omega
   obtain⟨x,ex⟩:∃x,a[i]?=some x:=⟨_,gE hlt⟩
   obtain⟨y,ey⟩:∃y,b[i]?=some y:=⟨_,gE (by omega)⟩
   have HS:=zjI g x y;have w1:=wS i;rw[zc3 ex ey]at hT;unfold B at HS;unfold chT at HS;simp only[vW,seval,d1,z5c,ex,ey,chR];(with_reducible apply zG);exact kv;exact HS;rfl;exact kv;cases hp:z0m x y
   ·simp only[vW,seval];rw[←hT,hp];rfl
   ·simp only[vW,seval,w1];rw[hp,Bool.true_and]at hT;exact zc ⟨i+1,by omega,hT⟩ (by show a.length-(i+1)<a.length-i;omega) lwA
  ·have d1:¬(i:Int)<(b.length:Int):=by omega
   rw[List.drop_eq_nil_of_le (by omega),List.drop_eq_nil_of_le (by omega)]at hT;simp only[vW,seval,d1];rw[←hT];rfl
 ·have d0:¬(a.length:Int)=(b.length:Int):=by omega
  simp only[vW,seval,d0,z1h];rw[←hR,z9e hlen]
def z4H(a b:Ln):Bool:=z6F a.c b.c&&z33 z0m a.hs b.hs
theorem zo3(g:Sh.Glob)(a b:Ln)(h1:a.c.fs.length≤1000)(h2:b.c.fs.length≤1000)(h3:a.hs.length≤1000):zC g 64 [.agg (lnC a),.agg (lnC b)] [] (B (z4H a b)) []:=by
 have HC:=zeP g a.c b.c (by omega) (by omega);have HE:=zpG g a.hs b.hs h3;refine za tf_171 ?_;unfold z4H;unfold lnC clT B at*;simp only[vW,seval];refine z8 HC ?_;cases hc:z6F a.c b.c
 ·simp only[vW,seval]
 ·simp only[vW,seval];refine z8 HE ?_;trivial
theorem zpH(g:Sh.Glob)(a b:List Ln)(ha:a.length≤1000)(h1:∀l∈a,l.c.fs.length≤1000∧l.hs.length≤1000)(h2:∀l∈b,l.c.fs.length≤1000):zC g 63 [.pv (.sl 3 (z3W a)),.pv (.sl 3 (z3W b)),.pv (.v (.func (.func 64) #[] #[]))] [] (B (z33 z4H a b)) []:=by
 refine za tf_184 ?_;obtain⟨R,hR⟩:∃R,z33 z4H a b=R:=⟨_,rfl⟩
 rw[hR];unfold B;by_cases hlen:a.length=b.length
 ·have d0:(a.length:Int)=(b.length:Int):=by omega
  simp only[vW,seval,d0,z5N];refine zp (σ:={i:Nat // i≤a.length∧z33 z4H (a.drop i) (b.drop i)=R}) (fun i=>⟨[(1,.pv (.sl 3 (z3W b))),(2,.pv (.v (.func (.func 64) #[] #[]))),(15,.pv (.sl 3 (z3W a))),(16,I (b.length:Int)),(17,I (i.1:Int))],[],[],[]⟩) (fun i=>a.length-i.1) ⟨0,Nat.zero_le _,hR⟩ ?_ ?_
  ·exact lwA
  rintro⟨i,hi,hT⟩;by_cases hlt:i<a.length
  ·have d1:(i:Int)<(b.length:Int):=by omega
   obtain⟨x,ex⟩:∃x,a[i]?=some x:=⟨_,gE hlt⟩
   obtain⟨y,ey⟩:∃y,b[i]?=some y:=⟨_,gE (by omega)⟩
   have HS:=zo3 g x y (h1 x (gM ex)).1 (h2 y (gM ey)) (h1 x (gM ex)).2;have w1:=wS i;rw[zc3 ex ey]at hT;unfold B at HS;unfold lnC at HS;simp only[vW,seval,d1,zbI,ex,ey,lnR];(with_reducible apply zG);exact kv;exact HS;rfl;exact kv;cases hp:z4H x y
   ·simp only[vW,seval];rw[←hT,hp];rfl
   ·simp only[vW,seval,w1];rw[hp,Bool.true_and]at hT;exact zc ⟨i+1,by omega,hT⟩ (by show a.length-(i+1)<a.length-i;omega) lwA
  ·have d1:¬(i:Int)<(b.length:Int):=by omega
   rw[List.drop_eq_nil_of_le (by omega),List.drop_eq_nil_of_le (by omega)]at hT;simp only[vW,seval,d1];rw[←hT];rfl
 ·have d0:¬(a.length:Int)=(b.length:Int):=by omega
  simp only[vW,seval,d0,z5N];rw[←hR,z9e hlen]
theorem zg4(g:Sh.Glob)(a b:List Ln)(ha:a.length≤1000)(h1:∀l∈a,l.c.fs.length≤1000∧l.hs.length≤1000)(h2:∀l∈b,l.c.fs.length≤1000):zC g 30 [scT a,scT b] [] (B (z33 z4H a b)) []:=by
 have HE:=zpH g a b ha h1 h2;refine za tf_170 ?_;unfold scT B at*;simp only[vW,seval];exact zd HE
end
section
open Go.Sh.Cd10
def c8:Cls:=⟨[99],[⟨[97],⟨1,0⟩,false⟩]⟩
def h8:Chg:=⟨1,[],[98],[],⟨1,0⟩,[97,32,42,32,50],[]⟩
def d8:Cls:=⟨[99],[⟨[97],⟨1,0⟩,false⟩,⟨[98],⟨1,0⟩,false⟩]⟩
def l8:Ln:=⟨c8,[h8]⟩
def n8(n:Int):V:=.mk 1 n [] []
theorem zeI:ze c8=true:=by kernel_rfl
theorem ztc:z0D c8 h8=(d8,0):=by kernel_rfl
theorem zrk:z09 l8=true:=by kernel_rfl
theorem zte:zq l8 1=(d8,0):=by kernel_rfl
theorem zri:zq l8 0=(c8,0):=by kernel_rfl
theorem ztf:z3T l8 0 [n8 3] 1=[n8 3,n8 6]:=by kernel_rfl
theorem zoR(m:Nat):ChOk m h8:=⟨by unfold z0t h8;decide,by unfold z0t h8;decide,by unfold z0t h8;decide,z9X m (r:=rdV h8.x) (by kernel_rfl) (by unfold h8;decide),zgn m⟩
theorem l8_s:RightS [l8]:=⟨by decide,fun l hl=>by simp at hl;subst hl;exact zrk,fun i j a b hi hj _=>by
 have h1:=(gJ hi).1;have h2:=(gJ hj).1;simp at h1 h2;omega⟩
theorem zep(m:Nat):LnOk m l8:=⟨zrk,fun x hx=>by unfold l8 at hx;simp at hx;subst hx;exact zoR m⟩
theorem znn(m:Nat):zeA m [l8]:=fun l hl=>by
 simp at hl;subst hl;exact⟨(z2g zeI).1,(zep m).h⟩
theorem zrj:FitC (zq l8 0).1 [n8 3]:=by
 rw[zri];refine⟨zeI,rfl,fun i f v hf hv=> ?_⟩
 match i with
 |0=>cases hf;cases hv;show _=true;kernel_rfl
 |i+1=>cases hv
theorem zk4(m:Nat)(ls:List Ln)(hl:ls.length≤1000)(hs:zeA m ls)(he:(z7y ls).2=0)(c:Cls)(hc:ze c=true){k:Nat}(hn:z3h ls c.n=(k,true)):zC (glE m) 26 [scT ls,clT c] [] (.tuple [.agg [zD],I 80]) []:=by
 have HC:=z6u m ls hl hs;have HR:=z0E (glE m) c (z2g hc).1;have HN:=z7J (glE m) ls c.n hl;rw[he]at HC;rw[hc]at HR;rw[hn]at HN;refine za tf_164 ?_;unfold scT clT B zD at*;simp only[vW,seval];refine z8 HC ?_;refine z8 HR ?_;refine z8 HN ?_;simp only[vW,seval,false_imp_iff,and_true,true_and,forall_const]
theorem zqE:Wk (.agg [zD]) (scT []):=z9m rfl fun j a b ha hb=>by
 match j with
 |0=>cases ha;cases hb;exact z3z 3
 |j+1=>cases ha
theorem last_bad'(m:Nat){ls:List Ln}{n e:Int}(he:e≠0)(HL:zC (glE m) 33 [scT ls,I n] [] (zfx e) []):zC (glE m) 28 [scT ls,I n] [] (.tuple [I 0,I e]) []:=zno he HL
theorem zmq(m:Nat):zC (glE m) 7 [] [] (B true) []:=by
 have HL:zC (glE m) 33 [scT [l8],I 0] [] (.tuple [.agg (lnC l8),I 0]) []:=zcD m [l8] (by decide) (znn m) (by rw[l8_s.check]) (k:=0) rfl;have A1:zC (glE m) 26 [.agg [zD],clT c8] [] (.tuple [scT [⟨c8,[]⟩],I 0]) []:=(zpo m c8 zeI).inp rfl (fun j c d hc hd=>by
  match j with
  |0=>cases hc;cases hd;exact zqE
  |1=>cases hc;cases hd;exact .refl _
  |j+2=>cases hc)
 have T1:=zom m c8 h8 zeI (zoR m) (by rw[ztc]);have V1:=zez (zep m) HL (fr:=0) (tt:=1) (Nat.zero_le _) (Nat.le_refl _) [n8 3] zrj;rw[show 1-0=1 from rfl,ztf]at V1;have V1':zC (glE m) 12 [scT [l8],I 0,I 0,I 1,.pv (.sl 4 ([n8 3].map rvN))] [] (.tuple [.pv (.sl 4 (V.rows [n8 3,n8 6])),I 0]) []:=V1.inp rfl (fun j c d hc hd=>by
  match j with
  |0=>cases hc;cases hd;exact .refl _
  |1=>cases hc;cases hd;exact .refl _
  |2=>cases hc;cases hd;exact .refl _
  |3=>cases hc;cases hd;exact .refl _
  |4=>cases hc;cases hd;exact zic (by intro v hv;simp at hv;subst hv;rfl)
  |j+5=>cases hc)
 have P0:zC (glE m) 10 [scT [l8],I 0,I 0] [] (.tuple [clT c8,I 0]) []:=by
  have:=zin (zep m) HL (v:=0) (Nat.zero_le _);rw[zri]at this;exact this
 have P1:zC (glE m) 10 [scT [l8],I 0,I 1] [] (.tuple [clT d8,I 0]) []:=by
  have:=zin (zep m) HL (v:=1) (Nat.le_refl _);rw[zte]at this;exact this
 have P2:=zqO HL 2 (.inr (by decide));have A2:=zk4 m [l8] (by decide) (znn m) (by rw[l8_s.check]) c8 zeI (l8_s.find (k:=0) (x:=l8) rfl);have L0:zC (glE m) 28 [scT [l8],I 0] [] (.tuple [I 1,I 0]) []:=zpT HL;have F0:zC (glE m) 29 [scT [l8],S (str [99])] [] (.tuple [I 0,B true]) []:=by
  have:=z7J (glE m) [l8] [99] (by decide);rw[show z3h [l8] [99]=(0,true) from l8_s.find (k:=0) (x:=l8) rfl]at this;exact this
 have L1:=last_bad' m (by decide) (znr m [l8] (by decide) (znn m) 1 (by rw[l8_s.check]) (.inr (by decide)));have V2:=zkb HL 1 0 (.inr (.inr (by decide))) zD;have SV:=zap (glE m) [n8 3,n8 6] (by intro v hv;simp at hv;rcases hv with rfl|rfl<;>exact(zt9 rfl (by decide)).1) (by decide);have SV':zC (glE m) 14 [.pv (.sl 4 (V.rows [n8 3,n8 6])),.pv (.sl 4 ([n8 3,n8 6].map rvN))] [] (B true) []:=SV.inp rfl (fun j c d hc hd=>by
  match j with
  |0=>cases hc;cases hd;exact .refl _
  |1=>cases hc;cases hd;exact zic (by intro v hv;simp at hv;rcases hv with rfl|rfl<;>rfl)
  |j+2=>cases hc)
 have S1:=zg4 (glE m) [l8] [l8] (by decide) (by intro l hl;simp at hl;subst hl;exact⟨by decide,by decide⟩) (by intro l hl;simp at hl;subst hl;decide);rw[show z33 z4H [l8] [l8]=true by kernel_rfl]at S1;have S2:=zg4 (glE m) [⟨c8,[]⟩] [l8] (by decide) (by intro l hl;simp at hl;subst hl;exact⟨by decide,by decide⟩) (by intro l hl;simp at hl;subst hl;decide);rw[show z33 z4H [⟨c8,[]⟩] [l8]=false by kernel_rfl]at S2;have T1:zC (glE m) 27 [scT [⟨c8,[]⟩],I 0,chT h8] [] (.tuple [scT [l8],I 0]) []:=T1;clear V1 SV;generalize V.rows [n8 3,n8 6]=r1 at*;unfold scT at*;generalize z3W [l8]=r8 at*;generalize z3W [⟨c8,[]⟩]=r0 at*;unfold clT chT flR c8 d8 h8 n8 rvN zD B at*;simp only[List.map_cons,List.map_nil]at*;refine z0w tf_129 ?_;refine z8 A1 ?_;refine z8 T1 ?_;refine z8 V1' ?_;refine z8 P0 ?_;refine z8 P1 ?_;refine z8 P2 ?_;refine z8 A2 ?_;refine z8 L0 ?_;refine z8 F0 ?_;refine z8 L1 ?_;refine z8 V2 ?_;refine z8 SV' ?_;refine z8 S1 ?_;exact zd S2
theorem zpx(m:Nat){h:Chg}(hi:ChRd h):ChOk m h:=by
 have key:∀s,zeB s→TxOk m s:=fun s hs=>by
  rcases hs with rfl|⟨h2,r,hr⟩
  ·exact zgn m
  ·exact z9X m hr (by omega)
 have sh:∀s:zB,s.length≤20→z0t s:=fun s h=>by unfold z0t;omega
 exact⟨sh _ hi.f,sh _ hi.n,sh _ hi.m,key _ hi.x,key _ hi.o⟩
theorem znc(m:Nat){l:Ln}(h:GoodL l):LnOk m l:=⟨h.r,fun x hx=>zpx m (h.h x hx)⟩
end
theorem zkD{c:Cls}{k:Nat}{f:Fld}(hr:ze c=true)(h:c.fs[k]?=some f):z1L c.fs f.n=.tuple [I (k:Int),B true]∧k<8:=by
 obtain⟨_,h1,_,h2⟩:=z6k hr h;have:=(zpz hr).2;refine⟨?_,by omega⟩;unfold z1L;rw[h1,if_neg (by omega)]
end Go.Proofs.YtbkgnekfigknhaaGreatDoor
end

section
namespace Go.Mor
open Go
open Go.Proofs.YtbkgnekfigknhaaGreatDoor (cmpV z8n zkl zmJ z4O zd5 z1i zZ z2t z0P)
section
variable{fs:List Fld}{vals:List V}{d:Nat}{x:Int}{t:zB}{a b c:V}{s:zB}{n:Int}
end
section
variable{x y:Int}{t u:zB}
end
section
variable{gs:List (zB)}{x:Int}
end
def Ascii(s:zB):Prop:=∀b∈s,32≤b.toNat∧b.toNat<127
theorem Ascii.take{s:zB}(h:Ascii s)(n:Nat):Ascii (s.take n):=fun b hb=>h b (List.mem_of_mem_take hb)
end Go.Mor
end

section
namespace Go.Proofs.YtbkgnekfigknhaaGreatDoor
open Go Go.RowKit Go.Mor Go.Sh Go.Sh.Cd1 Go.Sh.Cd6
theorem zq6{d:Nat}{e:V}(h:okE (d+1) e=true):e.l.length≤3∧e.s.length≤60:=by
 obtain⟨hn,_⟩:=z2G h;rcases z23 hn with k|k|k|k|k|k
 ·have:=z6C hn k;rw[this.2.2.1,this.2.2.2];simp
 ·have:=z5g hn k;rw[this.2.2];exact⟨by simp,zhW this.2.1⟩
 ·have:=z7P hn k;rw[this.2.2];have h2:=this.2.1;unfold zb at h2;simp at h2;refine⟨by simp,by omega⟩
 ·obtain⟨_,hb,a,b,h⟩:=z3M hn k;have:=z8k hb;rw[h];exact⟨by simp,by omega⟩
 ·obtain⟨_,hb,a,h⟩:=z5h hn k;rw[h,hb];simp
 ·obtain⟨_,hb,h⟩:=z4E hn k;have h2:=z62 e.s;refine⟨by omega,?_⟩;rcases z3b hb with h|h|h|h|h|h|h|h|h|h<;>rw[h]<;>decide
theorem z8O:∀(d:Nat) (e:V),okE d e=true→ESmall e
 |0,e,h=>by simp[okE]at h
 |d+1,e,h=>by
  have key:=zq6 h;have hk:=(z2G h).2;obtain⟨k,n,s,l⟩:=e;exact .mk (by have:=key.1;simp only[Vl]at this;omega) (by have:=key.2;simp only[Vs]at this;omega) (fun y hy=>z8O d y (hk y hy))
theorem zg0{e:V}(h:z0b e=true):ESmall e:=z8O 8 e (z5R h).1
end Go.Proofs.YtbkgnekfigknhaaGreatDoor
end
