/- Merged texts: Po1 Zo6 Zo7 Zo8 Zo9 Zu1 Ze28 Zu2 Zo2 Pk9 Zo3 Zo4 Zu3 Zu4. No statement of the program is proved here. -/
import Derived.Test.YtcpaleaajdilgaaGreatDoorM1
import Derived.Test.YtcpaleaajdilgaaGreatDoorM2
import Derived.Test.YtcpaleaajdilgaaGreatDoorM3
import Derived.Test.YtcpaleaajdilgaaGreatDoorM4
import Derived.Test.YtcpaleaajdilgaaGreatDoorM5
import Derived.Test.YtcpaleaajdilgaaGreatDoorM6
import Derived.Test.YtcpaleaajdilgaaGreatDoorM7
import Derived.Test.YtcpaleaajdilgaaGreatDoorM8
import Derived.Test.YtcpaleaajdilgaaGreatDoorM9
import Derived.Test.YtcpaleaajdilgaaGreatDoorM10
import Derived.Test.YtcpaleaajdilgaaGreatDoorM11
import Derived.Test.YtcpaleaajdilgaaGreatDoorM12
import Derived.Test.YtcpaleaajdilgaaGreatDoorM13
import Derived.Test.YtcpaleaajdilgaaGreatDoorM14
set_option linter.unusedSimpArgs false
set_option linter.unusedVariables false
set_option maxRecDepth 100000
set_option maxHeartbeats 8000000
section
namespace Go.Mor
open Go
section
def failB(L:List Pc)(sz p:Nat)(b:Int):Int:=if b<0 then((pkP L sz p).p:Int)else b
def wantS(L:List Pc)(sz:Nat)(t:zB)(p:Nat)(b:Int):Nat×Int:=if 0≤b then(p,b)else if isSg (pkP L sz p) t then(p+1,b)else(p,failB L sz p b)
mutual
def mE(L:List Pc)(sz:Nat):Nat→Int→Nat→Int→Option (V×Nat×Int)
 |0,_,_,_=>none
 |f+1,least,p,b=>match mT L sz f p b with
  |some (e,p',b')=>mL L sz f least e p' b'
  |none=>none
def mL(L:List Pc)(sz:Nat):Nat→Int→V→Nat→Int→Option (V×Nat×Int)
 |0,_,_,_,_=>none
 |f+1,least,e,p,b=>
  if b<0∧(pkP L sz p).k=4∧least≤bindsV (pkP L sz p).s then(match mE L sz f (bindsV (pkP L sz p).s+1) (p+1) b with
   |some (e2,p2,b2)=>mL L sz f least (.mk 4 0 (pkP L sz p).s [e,e2]) p2 b2
   |none=>none)
  else some (e,p,b)
def mT(L:List Pc)(sz:Nat):Nat→Nat→Int→Option (V×Nat×Int)
 |0,_,_=>none
 |f+1,p,b=>
  if 0≤b∨L.length≤p then some (V.nil,p,failB L sz p b)
  else if(pkP L sz p).k=1∨(pkP L sz p).k=2 then some (.mk (pkP L sz p).k (pkP L sz p).n (pkP L sz p).s [],p+1,b)
  else if(pkP L sz p).k=3 then(if isSg (pkP L sz (p+1)) [40]=true∧0<takesV (pkP L sz p).s then mH L sz f (pkP L sz p).s 0 (p+1+1) b []
   else some (.mk 3 0 (pkP L sz p).s [],p+1,b))
  else if(pkP L sz p).s=[45] then(match mT L sz f (p+1) b with
   |some (e,p',b')=>some (.mk 5 0 [45] [e],p',b')
   |none=>none)
  else if(pkP L sz p).s=[40] then(match mE L sz f 1 (p+1) b with
   |some (e,p',b')=>some (e,wantS L sz [41] p' b')
   |none=>none)
  else some (V.nil,p,failB L sz p b)
def mH(L:List Pc)(sz:Nat):Nat→zB→Nat→Nat→Int→List V→Option (V×Nat×Int)
 |0,_,_,_,_,_=>none
 |f+1,s,k,p,b,acc=>
  if(k:Int)<takesV s∧b<0 then(match mE L sz f 1 (if 0<k then wantS L sz [44] p b else(p,b)).1 (if 0<k then wantS L sz [44] p b else(p,b)).2 with
   |some (e,p2,b2)=>mH L sz f s (k+1) p2 b2 (acc++[e])
   |none=>none)
  else some (.mk 6 0 s acc,wantS L sz [41] p b)
end
structure PcOk(q:Pc):Prop where
 k:q.k=1∨q.k=2∨q.k=3∨q.k=4
 n:q.k=2→q.n=0
 s:q.k=1→q.s=[]
section
variable{L:List Pc}{sz:Nat}
theorem pk_none{p:Nat}(h:L.length≤p):pkP L sz p=⟨0,0,[],sz⟩:=by grind [pkP,List.getElem?_eq_none]
theorem pk_some{p:Nat}{q:Pc}(h:L[p]?=some q):pkP L sz p=q:=by grind [pkP]
theorem fail_neg(p:Nat):0≤failB L sz p (-1):=by unfold failB;simp
theorem fail_pos{p:Nat}{b:Int}(h:0≤b):failB L sz p b=b:=by grind [failB]
theorem want_pos{t:zB}{p:Nat}{b:Int}(h:0≤b):wantS L sz t p b=(p,b):=by grind [wantS]
theorem want_is{t:zB}{p:Nat}(h:isSg (pkP L sz p) t=true):wantS L sz t p (-1)=(p+1, -1):=by grind [wantS]
theorem want_no{t:zB}{p:Nat}(h:isSg (pkP L sz p) t=false):0≤(wantS L sz t p (-1)).2:=by
 unfold wantS;rw[if_neg (by omega),if_neg (by grind)];exact fail_neg p
theorem mE_bad{b:Int}(h:0≤b)(f:Nat)(least:Int)(p:Nat):mE L sz (f+2) least p b=some (V.nil,p,b):=by
 rw[mE,mT,if_pos (.inl h),fail_pos h]
 grind [mL]
def Agree(r:Rs V)(o:Option (V×Nat×Int)):Prop:=match r with
 | .ok e p=>o=some (e,p, -1)
 | .bad _ _=>∃e q b,0≤b∧o=some (e,q,b)
theorem agree_all(hL:∀q∈L,PcOk q):∀f:Nat,
  (∀least p r,pE L sz f least p=some r→Agree r (mE L sz (f+3) least p (-1)))∧
  (∀least e p r,pL L sz f least e p=some r→Agree r (mL L sz (f+3) least e p (-1)))∧
  (∀p r,pT L sz f p=some r→Agree r (mT L sz (f+3) p (-1)))∧
  (∀(s:zB) k p acc r,pH L sz f (takesV s).toNat k p acc=some r→match r with
   | .ok l p'=>mH L sz (f+3) s k p (-1) acc=some (.mk 6 0 s l,p', -1)
   | .bad _ _=>∃e q b,0≤b∧mH L sz (f+3) s k p (-1) acc=some (e,q,b)):=by
 intro f
 induction f with
 |zero=>grind [pE,pL,pT,pH]
 |succ f ih=>
  obtain⟨iE,iL,iT,iH⟩:=ih;refine⟨fun least p r h=> ?_,fun least e p r h=> ?_,fun p r h=> ?_,fun s k p acc r h=> ?_⟩
  ·rw[pE]at h;rw[show f+1+3=(f+3)+1 by omega,mE];split at h
   ·rename_i e p' hT;have:=iT p _ hT
    grind [Agree]
   ·rename_i a p' hT;cases h;obtain⟨e,q,b,hb,ho⟩:=iT p _ hT;rw[ho];refine⟨e,q,b,hb,?_⟩
    dsimp only
    grind [mL]
   ·cases h
  ·rw[pL]at h;rw[show f+1+3=(f+3)+1 by omega,mL];split at h
   ·rename_i hc;cases h;show _=_
    grind
   ·rename_i hc;have h1:(pkP L sz p).k=4:=Decidable.byContradiction fun h=>hc (.inl h);have h2:bindsV (pkP L sz p).s≥least:=by
     omega
    rw[if_pos ⟨by omega,h1,h2⟩];split at h
    ·grind [Agree]
    ·rename_i a p' hE;cases h;obtain⟨e2,q,b,hb,ho⟩:=iE _ _ _ hE;rw[ho];refine⟨.mk 4 0 (pkP L sz p).s [e,e2],q,b,hb,?_⟩
     dsimp only
     grind [mL]
    ·cases h
  ·rw[show f+1+3=(f+3)+1 by omega,mT];rw[pT]at h;by_cases hp:L.length≤p
   ·rw[if_pos (.inr hp)];rw[pk_none hp]at h;simp[isSg]at h;subst h;exact⟨V.nil,p,_,fail_neg p,rfl⟩
   have hpl:p<L.length:=by omega
   rw[if_neg (by omega)];have hq:=hL (L[p]) (List.getElem_mem hpl);rw[←pk_some (sz:=sz) (gE hpl)]at hq;generalize pkP L sz p=x at*;rcases hq.k with k|k|k|k
   ·have s1:isSg x [40]=false:=by unfold isSg;rw[k];rfl
    have s2:isSg x [45]=false:=by grind [isSg]
    simp only[s1,s2,k,if_true,Bool.false_eq_true,if_false]at h;cases h;rw[if_pos (.inl k),k,hq.s k];rfl
   ·have s1:isSg x [40]=false:=by unfold isSg;rw[k];rfl
    have s2:isSg x [45]=false:=by grind [isSg]
    simp only[s1,s2,k,if_true,Bool.false_eq_true,if_false,show ¬(2:Int)=1 by decide]at h;cases h;rw[if_pos (.inr k),k,hq.n k];rfl
   ·have s1:isSg x [40]=false:=by unfold isSg;rw[k];rfl
    have s2:isSg x [45]=false:=by grind [isSg]
    simp only[s1,s2,k,if_true,Bool.false_eq_true,if_false,show ¬(3:Int)=1 by decide,show ¬(3:Int)=2 by decide]at h;rw[if_neg (by omega),if_pos k];split at h
    ·rename_i hc;rw[if_pos ⟨hc.2,hc.1⟩];split at h
     ·rename_i l p' hH;cases h;have:=iH x.s 0 (p+2) [] _ hH;exact this
     ·rename_i a p' hH;cases h;have:=iH x.s 0 (p+2) [] _ hH;exact this
     ·cases h
    ·rename_i hc;cases h;rw[if_neg (fun h=>hc ⟨h.2,h.1⟩)];rfl
   ·rw[if_neg (by omega),if_neg (by omega)];have hs:∀t,isSg x t=decide (x.s=t):=fun t=>by unfold isSg;rw[k,Bool.eq_iff_iff];simp
    rw[hs,hs]at h;by_cases h40:x.s=[40]
    ·rw[if_neg (by grind),if_pos h40];rw[if_pos (by grind)]at h;split at h
     ·rename_i e p' hE;have:=iE _ _ _ hE;unfold Agree at this
      dsimp only at this
      rw[this]
      dsimp only
      split at h
      ·rename_i h41;cases h;rw[want_is h41];rfl
      ·rename_i h41;cases h;exact⟨_,_,_,want_no (by grind),rfl⟩
     ·rename_i a p' hE;cases h;obtain⟨e,q,b,hb,ho⟩:=iE _ _ _ hE;rw[ho]
      dsimp only
      grind [want_pos]
     ·cases h
    rw[if_neg (by grind)]at h;by_cases h45:x.s=[45]
    ·rw[if_pos h45];rw[if_pos (by grind)]at h;split at h
     ·rename_i e p' hT;cases h;have:=iT _ _ hT;unfold Agree at this
      dsimp only at this
      rw[this];rfl
     ·rename_i a p' hT;cases h;obtain⟨e,q,b,hb,ho⟩:=iT _ _ hT;rw[ho];exact⟨_,_,_,hb,rfl⟩
     ·cases h
    rw[if_neg (by grind)]at h;rw[if_neg h45,if_neg h40];rw[if_neg (by omega),if_neg (by omega),if_neg (by omega)]at h;cases h;exact⟨_,_,_,fail_neg p,rfl⟩
  ·rw[show f+1+3=(f+3)+1 by omega,mH];rw[pH]at h;by_cases hk:k<(takesV s).toNat
   ·rw[if_pos hk]at h;rw[if_pos ⟨by omega,by omega⟩];by_cases h0:0<k
    ·simp only[if_pos h0];by_cases h44:isSg (pkP L sz p) [44]=false
     ·rw[if_pos ⟨h0,h44⟩]at h;cases h;have hb:=want_no h44;rw[show f+3=(f+1)+2 by omega,mE_bad hb]
      dsimp only
      rw[show f+1+2=(f+2)+1 by omega,mH,if_neg (by omega),want_pos hb]
      grind
     ·rw[if_neg (fun h=>h44 h.2),if_pos h0]at h;rw[want_is (by grind)]
      dsimp only
      split at h
      ·grind [Agree]
      ·rename_i a p' hE;cases h;obtain⟨e,q,b,hb,ho⟩:=iE _ _ _ hE;rw[ho]
       dsimp only
       grind [mH,want_pos]
      ·cases h
    ·simp only[if_neg h0];rw[if_neg (fun h=>h0 h.1),if_neg h0]at h;split at h
     ·grind [Agree]
     ·rename_i a p' hE;cases h;obtain⟨e,q,b,hb,ho⟩:=iE _ _ _ hE;rw[ho]
      dsimp only
      grind [mH,want_pos]
     ·cases h
   ·rw[if_neg hk]at h;rw[if_neg (by omega)];split at h
    ·rename_i h41;cases h
     dsimp only
     rw[want_is h41]
    ·rename_i h41;cases h;exact⟨_,_,_,want_no (by grind),rfl⟩
end
end
end Go.Mor
end

section
namespace Go.Proofs.YtcpaleaajdilgaaGreatDoor
open Go Go.RowKit Go.Mor Go.Sh Go.Sh.Cd1
section
open Go.Sh.Cd7
def qcK(k:Int):Int:=if k=4 then 0 else k
def qcT(q:Pc):TV:=.agg [I (qcK q.k),I q.n,S (str q.s),I (q.p:Int)]
def NextOk(g:Sh.Glob)(s:zB)(i:Nat)(r:Option (Pc×Nat)):Prop:=match r with
 |some (q,z)=>zC g 227 [S (str s),I (i:Int)] [] (.tuple [qcT q,I ((i+z:Nat):Int)]) []
 |none=>∃(k n:Int) (t:zB),zC g 227 [S (str s),I (i:Int)] [] (.tuple [.agg [I k,I n,S (str t),I (i:Int)],I 0]) []
theorem numG_big(l:zB)(z:Nat):(numG l 1000000000000001 z).1=1000000000000001:=by
 induction l generalizing z with
 |nil=>rfl
 |cons b r ih=>
  rw[numG];split
  ·rename_i h;unfold digB at h;simp only[decide_eq_true_eq]at h;rw[show min (10*(1000000000000001:Int)+((b.toNat:Int) - 48)) 1000000000000001=1000000000000001 by omega];exact ih _
  ·rfl
def ovf:zB→Int→Option Int
 |[],_=>none
 |b::r,n=>if digB b then(if 1000000000000000<10*n+((b.toNat:Int) - 48)then some (10*n+((b.toNat:Int) - 48))else ovf r (10*n+((b.toNat:Int) - 48)))else none
theorem ovf_num(l:zB):∀(n:Int) (z:Nat),0≤n→n≤1000000000000000→(ovf l n=none∧¬1000000000000000<(numG l n z).1)∨(∃m,ovf l n=some m∧1000000000000000<(numG l n z).1):=by
 induction l with
 |nil=>intro n z h0 h1;exact .inl ⟨rfl,by show ¬_<n;omega⟩
 |cons b r ih=>
  intro n z h0 h1;rw[ovf,numG];by_cases hd:digB b=true
  ·rw[if_pos hd,if_pos hd];have hd':=hd;unfold digB at hd';simp only[decide_eq_true_eq]at hd';by_cases hb:1000000000000000<10*n+((b.toNat:Int) - 48)
   ·rw[if_pos hb,show min (10*n+((b.toNat:Int) - 48)) 1000000000000001=1000000000000001 by omega,numG_big];exact .inr ⟨_,rfl,by decide⟩
   ·rw[if_neg hb,show min (10*n+((b.toNat:Int) - 48)) 1000000000000001=10*n+((b.toNat:Int) - 48) by omega];exact ih _ _ (by omega) (by omega)
  ·rw[if_neg hd,if_neg hd];exact .inl ⟨rfl,by show ¬_<n;omega⟩
theorem next_num(g:Sh.Glob)(s:zB)(i:Nat)(hs:s.length≤1000){b:UInt8}(hb:s[i]?=some b)(hd:digB b=true):NextOk g s i (readP (s.drop i) i):=by
 have hlt:i<s.length:=(gJ hb).1;have hdr:s.drop i=b::s.drop (i+1):=by rw[List.drop_eq_getElem_cons hlt];congr 1;rw[gE hlt]at hb;exact Option.some.inj hb
 have hD0:=refDigit5_ok g b;rw[hd]at hD0;have e0:=bS [];have hR:readP (s.drop i) i=if 1000000000000000<(numG (s.drop i) 0 0).1 then none else some (⟨1,(numG (s.drop i) 0 0).1,[],i⟩,(numG (s.drop i) 0 0).2):=by
  rw[hdr,readP];simp only[hd,if_true]
 rw[hR];obtain⟨R,hRn⟩:∃R,numG (s.drop i) 0 0=R:=⟨_,rfl⟩
 have hov:=ovf_num (s.drop i) 0 0 (by omega) (by omega);rw[hRn]at hov ⊢;unfold B at hD0;rcases hov with⟨o1,o2⟩|⟨m,o1,o2⟩
 ·rw[if_neg o2];change SCalls _ _ _ _ _ (.tuple [.agg [I 1,I R.1,S (str []),I (i:Int)],I ((i+R.2:Nat):Int)]) _;refine z10 tf_132 ?_;simp only[vW,seval,hb,e0];refine z8 hD0 ?_;refine v_loop (σ:={x:Nat×Int // i≤x.1∧x.1≤s.length∧numG (s.drop x.1) x.2 (x.1-i)=R∧ovf (s.drop x.1) x.2=none∧0≤x.2∧x.2≤1000000000000000}) (fun x=>⟨[(0,S (str s)),(1,I (i:Int)),(4,.ptr 4 0),(6,.ptr 6 0),(7,I (x.1.1:Int))],[(4,[I 0,I 0,S (str []),I 0]),(6,[I 0,I x.1.2,S (str []),I (i:Int)])],[],[]⟩) (fun x=>s.length-x.1.1) ⟨(i,0),Nat.le_refl _,by dsimp only;omega,by dsimp only;rw[Nat.sub_self];exact hRn,o1,Int.le_refl _,by dsimp only;omega⟩ ?_ ?_
  ·apply lw_of<;>simp[leL,lk,sv,Nat.beq,I,S,ES.kill,has,drp,nilT,e0]
  rintro⟨⟨t,n⟩,h1,h2,h3,h4,h5,h6⟩
  dsimp only at h1 h2 h3 h4 h5 h6
  by_cases hlt2:t<s.length
  ·have d1:(t:Int)<(s.length:Int):=by omega
   obtain⟨c,ec⟩:∃c,s[t]?=some c:=⟨_,gE hlt2⟩
   have hdr2:s.drop t=c::s.drop (t+1):=by rw[List.drop_eq_getElem_cons hlt2];congr 1;rw[gE hlt2]at ec;exact Option.some.inj ec
   have w1:=wS t;have hD:=refDigit5_ok g c;unfold B at hD;rw[hdr2]at h3 h4;cases hc:digB c
   ·rw[hc]at hD;rw[numG,hc]at h3;simp only[Bool.false_eq_true,if_false]at h3;subst h3;simp only[vW,seval,d1,ec];refine z8 hD ?_;rw[show i+(t-i)=t by omega]
   ·rw[hc]at hD;have hc':=hc;unfold digB at hc';simp only[decide_eq_true_eq]at hc';rw[ovf,if_pos hc]at h4;split at h4
    ·cases h4
    rename_i hno;rw[numG,hc,if_pos rfl,show min (10*n+((c.toNat:Int) - 48)) 1000000000000001=10*n+((c.toNat:Int) - 48) by omega]at h3;have v1:IntKind.u8.wrap ((c.toNat:Int) - 48)=(c.toNat:Int) - 48:=by rw[IntKind.wrap_u8];omega
    have v2:IntKind.i64.wrap ((c.toNat:Int) - 48)=(c.toNat:Int) - 48:=wrap64 (by omega) (by omega);have v3:IntKind.i64.wrap (10*n)=10*n:=wrap64 (by omega) (by omega);have v4:IntKind.i64.wrap (10*n+((c.toNat:Int) - 48))=10*n+((c.toNat:Int) - 48):=wrap64 (by omega) (by omega);simp only[vW,seval,d1,ec];refine z7 hD ?_;simp only[vW,seval,ec,v1,v2,v3,v4,hno,w1];refine z13 ⟨(t+1,10*n+((c.toNat:Int) - 48)),by dsimp only;omega,hlt2,by dsimp only;rw[show t+1-i=t-i+1 by omega];exact h3,h4,by dsimp only;omega,by dsimp only;omega⟩ (by show s.length-(t+1)<s.length-t;omega) ?_;exact lwA
  ·have d1:¬(t:Int)<(s.length:Int):=by omega
   rw[List.drop_eq_nil_of_le (by omega),numG]at h3;subst h3;simp only[vW,seval,d1];rw[show i+(t-i)=t by omega]
 ·rw[if_pos o2];refine⟨0,m,[],?_⟩;refine z10 tf_132 ?_;simp only[vW,seval,hb,e0];refine z8 hD0 ?_;refine v_loop (σ:={x:Nat×Int // i≤x.1∧x.1≤s.length∧ovf (s.drop x.1) x.2=some m∧0≤x.2∧x.2≤1000000000000000}) (fun x=>⟨[(0,S (str s)),(1,I (i:Int)),(4,.ptr 4 0),(6,.ptr 6 0),(7,I (x.1.1:Int))],[(4,[I 0,I 0,S (str []),I 0]),(6,[I 0,I x.1.2,S (str []),I (i:Int)])],[],[]⟩) (fun x=>s.length-x.1.1) ⟨(i,0),Nat.le_refl _,by dsimp only;omega,o1,Int.le_refl _,by dsimp only;omega⟩ ?_ ?_
  ·apply lw_of<;>simp[leL,lk,sv,Nat.beq,I,S,ES.kill,has,drp,nilT,e0]
  rintro⟨⟨t,n⟩,h1,h2,h4,h5,h6⟩
  dsimp only at h1 h2 h4 h5 h6
  by_cases hlt2:t<s.length
  ·have d1:(t:Int)<(s.length:Int):=by omega
   obtain⟨c,ec⟩:∃c,s[t]?=some c:=⟨_,gE hlt2⟩
   have hdr2:s.drop t=c::s.drop (t+1):=by rw[List.drop_eq_getElem_cons hlt2];congr 1;rw[gE hlt2]at ec;exact Option.some.inj ec
   have w1:=wS t;have hD:=refDigit5_ok g c;unfold B at hD;rw[hdr2,ovf]at h4;cases hc:digB c
   ·rw[hc]at h4;simp at h4
   ·rw[hc]at hD;rw[if_pos hc]at h4;have hc':=hc;unfold digB at hc';simp only[decide_eq_true_eq]at hc';have v1:IntKind.u8.wrap ((c.toNat:Int) - 48)=(c.toNat:Int) - 48:=by rw[IntKind.wrap_u8];omega
    have v2:IntKind.i64.wrap ((c.toNat:Int) - 48)=(c.toNat:Int) - 48:=wrap64 (by omega) (by omega);have v3:IntKind.i64.wrap (10*n)=10*n:=wrap64 (by omega) (by omega);have v4:IntKind.i64.wrap (10*n+((c.toNat:Int) - 48))=10*n+((c.toNat:Int) - 48):=wrap64 (by omega) (by omega);by_cases hno:1000000000000000<10*n+((c.toNat:Int) - 48)
    ·rw[if_pos hno]at h4;cases h4;simp only[vW,seval,d1,ec];refine z7 hD ?_;simp only[vW,seval,ec,v1,v2,v3,v4,hno,w1]
    ·rw[if_neg hno]at h4;simp only[vW,seval,d1,ec];refine z7 hD ?_;simp only[vW,seval,ec,v1,v2,v3,v4,hno,w1];refine z13 ⟨(t+1,10*n+((c.toNat:Int) - 48)),by dsimp only;omega,hlt2,h4,by dsimp only;omega,by dsimp only;omega⟩ (by show s.length-(t+1)<s.length-t;omega) ?_;exact lwA
  ·rw[List.drop_eq_nil_of_le (by omega),ovf]at h4;cases h4
theorem next_text(g:Sh.Glob)(s:zB)(i:Nat)(hs:s.length≤1000)(hb:s[i]?=some 34):NextOk g s i (readP (s.drop i) i):=by
 have hlt:i<s.length:=(gJ hb).1;have hdr:s.drop i=34::s.drop (i+1):=by rw[List.drop_eq_getElem_cons hlt];congr 1;rw[gE hlt]at hb;exact Option.some.inj hb
 have hD:=refDigit5_ok g 34;have hT:=refText5_ok g s i hlt hs;have e0:=bS [];have hR:readP (s.drop i) i=match quoG (s.drop (i+1)) [] 1 with|some (t,k)=>some (⟨2,0,t,i⟩,k)|none=>none:=by rw[hdr,readP];rfl
 rw[hR];generalize quoG (s.drop (i+1)) [] 1=R at*;rw[show digB 34=false by decide]at hD;unfold B at hD;cases R with
 |none=>
  refine⟨2,0,[],?_⟩;unfold txtT5 at hT
  dsimp only at hT
  refine z10 tf_132 ?_;simp only[vW,seval,hb,e0];refine z7 hD ?_;simp only[vW,seval,hb];exact z14 hT
 |some x=>
  obtain⟨t,k⟩:=x;change SCalls _ _ _ _ _ (.tuple [.agg [I 2,I 0,S (str t),I (i:Int)],I ((i+k:Nat):Int)]) _;unfold txtT5 at hT
  dsimp only at hT
  refine z10 tf_132 ?_;simp only[vW,seval,hb,e0];refine z7 hD ?_;simp only[vW,seval,hb];exact z14 hT
theorem next_name(g:Sh.Glob)(s:zB)(i:Nat)(hs:s.length≤1000){b:UInt8}(hb:s[i]?=some b)(hd:digB b=false)(hn:nameB b=true):NextOk g s i (readP (s.drop i) i):=by
 have hlt:i<s.length:=(gJ hb).1;have hdr:s.drop i=b::s.drop (i+1):=by rw[List.drop_eq_getElem_cons hlt];congr 1;rw[gE hlt]at hb;exact Option.some.inj hb
 have hD:=refDigit5_ok g b;have hW:=refWord5_ok g b;have e0:=bS [];rw[hd]at hD;rw[hn]at hW;unfold B at hD hW;have h34:¬b=34:=by rintro rfl;revert hn;decide
 have t34:¬(b.toNat:Int)=34:=b_ne b 34 h34;obtain⟨nz,hnz⟩:∃nz,nameZ (s.drop i)=nz:=⟨_,rfl⟩
 have hz1:1≤nz:=by rw[←hnz,hdr,nameZ,if_pos hn];omega
 have hzl:i+nz≤s.length:=by have:=nameZ_le (s.drop i);rw[hnz,List.length_drop]at this;omega
 have hsm:small b=false→z11 ((s.drop i).take nz)=false:=fun h=>by
  rw[hdr];cases nz with
  |zero=>omega
  |succ k=>
   rw[List.take_succ_cons];unfold z11;rw[show(b::(s.drop (i+1)).take k).headD 0=b from rfl,h,Bool.and_false,Bool.false_and]
 have hR:readP (s.drop i) i=if z11 ((s.drop i).take nz)then some (⟨3,0,(s.drop i).take nz,i⟩,nz)else none:=by
  cases h:small b
  ·rw[hsm h];have h95:b=95:=by
    unfold nameB at hn;unfold digB at hd;rw[h]at hn;simp at hn hd;apply UInt8.toNat_inj.1;show b.toNat=95;omega
   rw[hdr,h95];rfl
  ·rw[←hnz,hdr];rw[readP];simp only[hd,h,if_true,Bool.false_eq_true,if_false]
 rw[hR];have HN:=refName_ok g ((s.drop i).take nz) (by rw[List.length_take,List.length_drop];omega);unfold B at HN;have htk:List.take (i+nz-i) (List.drop i s)=(s.drop i).take nz:=by rw[Nat.add_sub_cancel_left]
 have main:∀Q,(z11 ((s.drop i).take nz)=true→Q=.tuple [.agg [I 3,I 0,S (str ((s.drop i).take nz)),I (i:Int)],I ((i+nz:Nat):Int)])→(z11 ((s.drop i).take nz)=false→Q=.tuple [.agg [I 3,I 0,S (str ((s.drop i).take nz)),I (i:Int)],I 0])→
   zC g 227 [S (str s),I (i:Int)] [] Q []:=fun Q q1 q2=>by
  refine z10 tf_132 ?_;simp only[vW,seval,hb,e0];refine z7 hD ?_;simp only[vW,seval,hb,t34];refine z8 hW ?_;refine v_loop (σ:={t:Nat // i≤t∧t≤s.length∧nameZ (s.drop t)+(t-i)=nz}) (fun t=>⟨[(0,S (str s)),(1,I (i:Int)),(4,.ptr 4 0),(6,.ptr 6 0),(7,I (t.1:Int))],[(4,[I 0,I 0,S (str []),I 0]),(6,[I 0,I 0,S (str []),I (i:Int)])],[],[]⟩) (fun t=>s.length-t.1) ⟨i,Nat.le_refl _,by omega,by omega⟩ ?_ ?_
  ·apply lw_of<;>simp[leL,lk,sv,Nat.beq,I,S,ES.kill,has,drp,nilT,e0]
  rintro⟨t,h1,h2,h3⟩;by_cases hlt2:t<s.length
  ·have d1:(t:Int)<(s.length:Int):=by omega
   obtain⟨c,ec⟩:∃c,s[t]?=some c:=⟨_,gE hlt2⟩
   have hdr2:s.drop t=c::s.drop (t+1):=by rw[List.drop_eq_getElem_cons hlt2];congr 1;rw[gE hlt2]at ec;exact Option.some.inj ec
   have w1:=wS t;have hC:=refWord5_ok g c;unfold B at hC;rw[hdr2,nameZ]at h3;cases hc:nameB c
   ·rw[hc]at hC h3;simp only[Bool.false_eq_true,if_false]at h3;simp only[vW,seval,d1,ec];refine z7 hC ?_;obtain rfl:t=i+nz:=by omega
    simp only[vW,seval,htk];refine⟨⟨by omega,by omega⟩,?_⟩;refine z7 HN ?_;cases hr:z11 ((s.drop i).take nz)
    ·simp only[vW,seval];rw[q2 hr];rfl
    ·simp only[vW,seval];rw[q1 hr];rfl
   ·rw[hc]at hC h3;simp only[if_true]at h3;simp only[vW,seval,d1,ec];refine z7 hC ?_;simp only[vW,seval,w1];refine z13 ⟨t+1,by omega,hlt2,by omega⟩ (by show s.length-(t+1)<s.length-t;omega) ?_;exact lwA
  ·have d1:¬(t:Int)<(s.length:Int):=by omega
   rw[List.drop_eq_nil_of_le (by omega),nameZ]at h3;obtain rfl:t=i+nz:=by omega
   simp only[vW,seval,d1,htk];refine⟨⟨by omega,by omega⟩,?_⟩;refine z7 HN ?_;cases hr:z11 ((s.drop i).take nz)
   ·simp only[vW,seval];rw[q2 hr];rfl
   ·simp only[vW,seval];rw[q1 hr];rfl
 cases hr:z11 ((s.drop i).take nz)
 ·exact⟨3,0,(s.drop i).take nz,main _ (fun h=>by rw[hr]at h;cases h) (fun _=>rfl)⟩
 ·exact main _ (fun _=>rfl) (fun h=>by rw[hr]at h;cases h)
def twoS(b c:UInt8):Bool:=([b,c]==[60,62]||[b,c]==[60,61])||[b,c]==[62,61]
def oneS(b:UInt8):Bool:=((decide (0<bindsV [b])||[b]==[40])||[b]==[41])||[b]==[44]
theorem two_no(b:UInt8):∀c,twoS b c=true→(b=60∧(c=62∨c=61))∨(b=62∧c=61):=by
 intro c h;unfold twoS at h;simp at h;rcases h with(h|h)|h
 ·exact .inl ⟨h.1,.inl h.2⟩
 ·exact .inl ⟨h.1,.inr h.2⟩
 ·exact .inr h
theorem sign_two{b c:UInt8}(r:zB)(h:twoS b c=true):signP (b::c::r)=[b,c]:=by
 rcases two_no b c h with⟨rfl,rfl|rfl⟩|⟨rfl,rfl⟩<;>rfl
theorem sign_one{b:UInt8}(r:zB)(h:∀c,r.head?=some c→twoS b c=false):signP (b::r)=if oneS b then [b] else []:=by
 have h62:b=60→r.head?≠some 62:=fun e h'=>by have:=h 62 h';rw[e]at this;revert this;decide
 have h61:b=60→r.head?≠some 61:=fun e h'=>by have:=h 61 h';rw[e]at this;revert this;decide
 have h63:b=62→r.head?≠some 61:=fun e h'=>by have:=h 61 h';rw[e]at this;revert this;decide
 rw[signP];by_cases e60:b=60
 ·rw[if_pos e60,if_neg (h62 e60),if_neg (h61 e60),e60];rfl
 rw[if_neg e60];by_cases e62:b=62
 ·rw[if_pos e62,if_neg (h63 e62),e62];rfl
 rw[if_neg e62];have:oneS b=decide (b=61∨b=38∨b=43∨b=45∨b=42∨b=47∨b=37∨b=40∨b=41∨b=44):=by
  rw[Bool.eq_iff_iff];unfold oneS bindsV;simp only[List.cons.injEq,and_true,Bool.or_eq_true,decide_eq_true_eq,beq_iff_eq];constructor
  ·rintro(((h|h)|h)|h)
   ·repeat' (split at h)
    all_goals first|omega|(rename_i h1;rcases h1 with h1|h1|h1|h1|h1|h1<;>simp_all;done)|(rename_i h1;rcases h1 with h1|h1|h1<;>simp_all;done)|(rename_i h1;rcases h1 with h1|h1<;>simp_all;done)|(simp_all;done)
   ·simp[h]
   ·simp[h]
   ·simp[h]
  ·rintro(h|h|h|h|h|h|h|h|h|h)<;>simp[h]
 rw[this];by_cases hc:b=61∨b=38∨b=43∨b=45∨b=42∨b=47∨b=37∨b=40∨b=41∨b=44
 ·rw[if_pos hc,decide_eq_true hc,if_pos rfl]
 ·rw[if_neg hc,decide_eq_false hc];rfl
theorem next_sign(g:Sh.Glob)(s:zB)(i:Nat)(hs:s.length≤1000){b:UInt8}(hb:s[i]?=some b)(hn:nameB b=false)(h34:b≠34):NextOk g s i (readP (s.drop i) i):=by
 have hlt:i<s.length:=(gJ hb).1;have hdr:s.drop i=b::s.drop (i+1):=by rw[List.drop_eq_getElem_cons hlt];congr 1;rw[gE hlt]at hb;exact Option.some.inj hb
 have hD:=refDigit5_ok g b;have hW:=refWord5_ok g b;have HB:=refBinds_ok g [b];have e0:=bS [];have hsm:small b=false∧digB b=false:=by
  unfold nameB at hn;unfold digB;simp at hn ⊢;exact⟨hn.1.1,hn.1.2⟩
 rw[hsm.2]at hD;rw[hn]at hW;unfold B at hD hW;have t34:¬(b.toNat:Int)=34:=b_ne b 34 h34;have hR:readP (s.drop i) i=if signP (s.drop i)=[] then none else some (⟨4,0,signP (s.drop i),i⟩,(signP (s.drop i)).length):=by
  rw[hdr,readP];simp only[hsm.1,hsm.2,Bool.false_eq_true,if_false,h34]
 rw[hR];have q1:=bS [60,62];have q2:=bS [60,61];have q3:=bS [62,61];have q4:=bS [40];have q5:=bS [41];have q6:=bS [44];have w1:=wS i;have w2:IntKind.i64.wrap ((i:Int)+2)=((i+2:Nat):Int):=wG;have k1:List.take (i+1-i) (List.drop i s)=[b]:=by rw[hdr,Nat.add_sub_cancel_left];rfl
 have k1':List.take 1 (List.drop i s)=[b]:=by rw[hdr];rfl
 have last:∀(h:∀c,s[i+1]?=some c→twoS b c=false),NextOk g s i (if signP (s.drop i)=[] then none else some (⟨4,0,signP (s.drop i),i⟩,(signP (s.drop i)).length)):=fun h=>by
  have hsg:signP (s.drop i)=if oneS b then [b] else []:=by
   rw[hdr];refine sign_one _ fun c hc=>h c ?_;rw[List.head?_drop]at hc;exact hc
  rw[hsg];have main:∀Q,(oneS b=true→Q=.tuple [.agg [I 0,I 0,S (str [b]),I (i:Int)],I ((i+1:Nat):Int)])→(oneS b=false→Q=.tuple [.agg [I 0,I 0,S (str [b]),I (i:Int)],I 0])→zC g 227 [S (str s),I (i:Int)] [] Q []:=fun Q f1 f2=>by
   refine z10 tf_132 ?_;simp only[vW,seval,hb,e0];refine z7 hD ?_;simp only[vW,seval,hb,t34];refine z7 hW ?_;by_cases hlt2:i+1<s.length
   ·have d1:((i+1:Nat):Int)<(s.length:Int):=by omega
    obtain⟨c,ec⟩:∃c,s[i+1]?=some c:=⟨_,gE hlt2⟩
    have hdr2:s.drop (i+1)=c::s.drop (i+1+1):=by rw[List.drop_eq_getElem_cons hlt2];congr 1;rw[gE hlt2]at ec;exact Option.some.inj ec
    have k2:List.take (i+2-i) (List.drop i s)=[b,c]:=by rw[hdr,hdr2,Nat.add_sub_cancel_left];rfl
    have k2':List.take 2 (List.drop i s)=[b,c]:=by rw[hdr,hdr2];rfl
    have hno:=h c ec;unfold twoS at hno;simp only[Bool.or_eq_false_iff]at hno;obtain⟨⟨x1,x2⟩,x3⟩:=hno;simp only[vW,seval,w1,w2,d1,k1,k2,k1',k2',q1,q2,q3,x1,x2,x3];repeat(with_reducible refine And.intro (And.intro (by omega) (by omega)) ?_)
    refine z7 HB ?_;by_cases y1:0<bindsV [b]
    ·simp only[vW,seval,y1,q4,q5,q6,w1];rw[f1 (by unfold oneS;rw[decide_eq_true y1];rfl)];rfl
    cases y2:([b]==[40])
    ·cases y3:([b]==[41])
     ·cases y4:([b]==[44])
      ·simp only[vW,seval,y1,y2,y3,y4,q4,q5,q6,w1];rw[f2 (by unfold oneS;rw[decide_eq_false y1,y2,y3,y4];rfl)];rfl
      ·simp only[vW,seval,y1,y2,y3,y4,q4,q5,q6,w1];rw[f1 (by unfold oneS;rw[decide_eq_false y1,y2,y3,y4];rfl)];rfl
     ·simp only[vW,seval,y1,y2,y3,q4,q5,q6,w1];rw[f1 (by unfold oneS;rw[decide_eq_false y1,y2,y3];rfl)];rfl
    ·simp only[vW,seval,y1,y2,q4,q5,q6,w1];rw[f1 (by unfold oneS;rw[decide_eq_false y1,y2];rfl)];rfl
   ·have d1:¬((i+1:Nat):Int)<(s.length:Int):=by omega
    simp only[vW,seval,w1,w2,d1,k1,k1',q1,q2,q3];repeat(with_reducible refine And.intro (And.intro (by omega) (by omega)) ?_)
    refine z7 HB ?_;by_cases y1:0<bindsV [b]
    ·simp only[vW,seval,y1,q4,q5,q6,w1];rw[f1 (by unfold oneS;rw[decide_eq_true y1];rfl)];rfl
    cases y2:([b]==[40])
    ·cases y3:([b]==[41])
     ·cases y4:([b]==[44])
      ·simp only[vW,seval,y1,y2,y3,y4,q4,q5,q6,w1];rw[f2 (by unfold oneS;rw[decide_eq_false y1,y2,y3,y4];rfl)];rfl
      ·simp only[vW,seval,y1,y2,y3,y4,q4,q5,q6,w1];rw[f1 (by unfold oneS;rw[decide_eq_false y1,y2,y3,y4];rfl)];rfl
     ·simp only[vW,seval,y1,y2,y3,q4,q5,q6,w1];rw[f1 (by unfold oneS;rw[decide_eq_false y1,y2,y3];rfl)];rfl
    ·simp only[vW,seval,y1,y2,q4,q5,q6,w1];rw[f1 (by unfold oneS;rw[decide_eq_false y1,y2];rfl)];rfl
  cases ho:oneS b
  ·exact⟨0,0,[b],main _ (fun h=>by rw[ho]at h;cases h) (fun _=>rfl)⟩
  ·exact main _ (fun _=>rfl) (fun h=>by rw[ho]at h;cases h)
 by_cases hlt2:i+1<s.length
 ·obtain⟨c,ec⟩:∃c,s[i+1]?=some c:=⟨_,gE hlt2⟩
  cases hx:twoS b c
  ·exact last fun c' hc'=>by rw[ec]at hc';cases hc';exact hx
  ·have d1:((i+1:Nat):Int)<(s.length:Int):=by omega
   have hdr2:s.drop (i+1)=c::s.drop (i+1+1):=by rw[List.drop_eq_getElem_cons hlt2];congr 1;rw[gE hlt2]at ec;exact Option.some.inj ec
   have k2:List.take (i+2-i) (List.drop i s)=[b,c]:=by rw[hdr,hdr2,Nat.add_sub_cancel_left];rfl
   have k2':List.take 2 (List.drop i s)=[b,c]:=by rw[hdr,hdr2];rfl
   have hsg:signP (s.drop i)=[b,c]:=by rw[hdr,hdr2];exact sign_two _ hx
   rw[hsg];change SCalls _ _ _ _ _ (.tuple [.agg [I 0,I 0,S (str [b,c]),I (i:Int)],I ((i+2:Nat):Int)]) _;refine z10 tf_132 ?_;have hc3:([b,c]==[60,62])=true∨(([b,c]==[60,62])=false∧([b,c]==[60,61])=true)∨(([b,c]==[60,62])=false∧([b,c]==[60,61])=false∧([b,c]==[62,61])=true):=by
    unfold twoS at hx;generalize([b,c]==[60,62])=p at*;generalize([b,c]==[60,61])=q at*;generalize([b,c]==[62,61])=r at*;revert hx;cases p<;>cases q<;>cases r<;>decide
   simp only[vW,seval,hb,e0];refine z7 hD ?_;simp only[vW,seval,hb,t34];refine z7 hW ?_;rcases hc3 with x1|⟨x1,x2⟩|⟨x1,x2,x3⟩
   ·simp only[vW,seval,w1,w2,d1,k1,k2,k1',k2',q1,q2,q3,x1]
    repeat' (first|(apply And.intro)|omega|rfl)
   ·simp only[vW,seval,w1,w2,d1,k1,k2,k1',k2',q1,q2,q3,x1,x2]
    repeat' (first|(apply And.intro)|omega|rfl)
   ·simp only[vW,seval,w1,w2,d1,k1,k2,k1',k2',q1,q2,q3,x1,x2,x3]
    repeat' (first|(apply And.intro)|omega|rfl)
 ·exact last fun c hc=>by have:=(gJ hc).1;omega
theorem refNext_ok(g:Sh.Glob)(s:zB)(i:Nat)(hs:s.length≤1000)(hi:i<s.length):NextOk g s i (readP (s.drop i) i):=by
 obtain⟨b,hb⟩:∃b,s[i]?=some b:=⟨_,gE hi⟩
 cases hd:digB b
 ·by_cases h34:b=34
  ·subst h34;exact next_text g s i hs hb
  ·cases hn:nameB b
   ·exact next_sign g s i hs hb hn h34
   ·exact next_name g s i hs hb hd hn
 ·exact next_num g s i hs hb hd
end
section
open Go.Sh.Cd7
def qcR1(q:Pc):List PV:=[.v (.int .i64 (qcK q.k)),.v (.int .i64 q.n),.v (.string (str q.s)),.v (.int .i64 (q.p:Int))]
def qcR(L:List Pc):List (List PV):=L.map qcR1
theorem qcGet(L:List Pc)(k:Nat):(qcR L)[k]?=(L[k]?).map qcR1:=by unfold qcR;rw[List.getElem?_map]
theorem qcLen(L:List Pc):(qcR L).length=L.length:=by unfold qcR;rw[List.length_map]
theorem qcV:(type_of% @qcGet)∧(type_of% @qcLen)∧(type_of% @qcR1.eq_1):=⟨@qcGet,@qcLen,@qcR1.eq_1⟩
def PB(L:List Pc)(sz p:Nat)(b:Int):MO:=.box [.pv (.sl 4 (qcR L)),I (p:Int),I (sz:Int),I b]
structure PcL(L:List Pc):Prop where
 ok:∀q∈L,PcOk q
 len:L.length≤1000
section
variable{L:List Pc}{sz:Nat}
theorem rIs_ok(g:Sh.Glob)(hL:PcL L)(t:zB)(p:Nat)(b:Int):zC g 297 [.ptr 1000 0,S (str t)] [PB L sz p b] (B (isSg (pkP L sz p) t)) [PB L sz p b]:=by
 unfold PB B;refine z22 tf_33 ?_;by_cases hp:p<L.length
 ·have d1:(p:Int)<(L.length:Int):=by omega
  obtain⟨q,eq⟩:∃q,L[p]?=some q:=⟨_,gE hp⟩
  have hq:=hL.ok q (gM eq);rw[pk_some eq];have hk:isSg q t=(decide (qcK q.k=0)&&q.s==t):=by
   unfold isSg qcK;rcases hq.k with k|k|k|k<;>rw[k]<;>rfl
  rw[hk];by_cases k0:qcK q.k=0
  ·simp only[vW,seval,d1,eq,qcV,k0]
  ·simp only[vW,seval,d1,eq,qcV,k0]
 ·have d1:¬(p:Int)<(L.length:Int):=by omega
  rw[pk_none (by omega)];simp only[vW,seval,d1,qcV];rfl
theorem rFail_ok(g:Sh.Glob)(hL:PcL L)(p:Nat)(b:Int):zC g 229 [.ptr 1000 0] [PB L sz p b] (tv V.nil) [PB L sz p (failB L sz p b)]:=by
 refine SCalls.out ?_ (nv_tv (x:=V.nil) rfl);unfold PB nv;refine z22 tf_32 ?_;have e0:=bS [];unfold failB;by_cases hb:b<0
 ·rw[if_pos hb];by_cases hp:p<L.length
  ·have d1:(p:Int)<(L.length:Int):=by omega
   obtain⟨q,eq⟩:∃q,L[p]?=some q:=⟨_,gE hp⟩
   rw[pk_some eq];simp only[vW,seval,d1,eq,qcV,hb,e0];try rfl
  ·have d1:¬(p:Int)<(L.length:Int):=by omega
   rw[pk_none (by omega)];simp only[vW,seval,d1,qcV,hb,e0];try rfl
 ·rw[if_neg hb];simp only[vW,seval,qcV,hb,e0];try rfl
theorem rWant_ok(g:Sh.Glob)(hL:PcL L)(t:zB)(p:Nat)(b:Int):zC g 300 [.ptr 1000 0,S (str t)] [PB L sz p b] (.tuple []) [PB L sz (wantS L sz t p b).1 (wantS L sz t p b).2]:=by
 have HI:=rIs_ok (sz:=sz) g hL t p b;have HF:=rFail_ok (sz:=sz) g hL p b;unfold wantS;refine z22 tf_35 ?_;by_cases hb:0≤b
 ·rw[if_pos hb];unfold PB;simp only[vW,seval,hb];try rfl
 ·rw[if_neg hb];unfold PB B at*;cases hs:isSg (pkP L sz p) t
  ·rw[hs]at HI;simp only[vW,seval,hb];refine z8 HI ?_;exact z14 HF
  ·rw[hs]at HI;have hp:p<L.length:=by
    rcases Nat.lt_or_ge p L.length with h|h
    ·exact h
    ·rw[pk_none h]at hs;simp[isSg]at hs
   have hln:=hL.len;have w1:=wS p;simp only[vW,seval,hb];refine z7 HI ?_;simp only[vW,seval,w1];try rfl
end
end
section
open Go.Sh.Cd7
section
variable(g:Sh.Glob)(L:List Pc)(sz:Nat)
def EX(F:Nat):Prop:=∀(least:Int) (p:Nat) (b:Int) (r:V×Nat×Int),mE L sz F least p b=some r→zC g 228 [.ptr 1000 0,I least] [PB L sz p b] (tv r.1) [PB L sz r.2.1 r.2.2]
def TX(F:Nat):Prop:=∀(p:Nat) (b:Int) (r:V×Nat×Int),mT L sz F p b=some r→zC g 267 [.ptr 1000 0] [PB L sz p b] (tv r.1) [PB L sz r.2.1 r.2.2]
def HX(F:Nat):Prop:=∀(s:zB) (p:Nat) (b:Int) (r:V×Nat×Int),mH L sz F s 0 p b []=some r→zC g 299 [.ptr 1000 0,S (str s)] [PB L sz p b] (tv r.1) [PB L sz r.2.1 r.2.2]
end
variable{g:Sh.Glob}{L:List Pc}{sz:Nat}
theorem rTight_step(hL:PcL L)(F:Nat)(hT:TX g L sz F)(hE:EX g L sz F)(hH:HX g L sz F):TX g L sz (F+1):=by
 intro p b r h;rw[mT]at h;have HF:=rFail_ok (sz:=sz) g hL p b;have e0:=bS [];have hln:=hL.len;by_cases h0:0≤b∨L.length≤p
 ·rw[if_pos h0]at h;cases h;refine z22 tf_34 ?_;try dsimp only
  generalize failB L sz p b=fb at*;unfold PB at*;by_cases hb:0≤b
  ·simp only[vW,seval,hb];exact z14 HF
  ·have d1:(L.length:Int)≤(p:Int):=by omega
   simp only[vW,seval,hb,d1,qcV];exact z14 HF
 rw[if_neg h0]at h;have hb:¬0≤b:=fun h=>h0 (.inl h);have hp:p<L.length:=by omega
 have d1:¬(L.length:Int)≤(p:Int):=by omega
 obtain⟨x,ex⟩:∃q,L[p]?=some q:=⟨_,gE hp⟩
 have hq:=hL.ok x (gM ex);rw[pk_some ex]at h;have w1:=wS p;rcases hq.k with k|k|k|k
 ·rw[if_pos (.inl k)]at h;cases h;have kk:qcK x.k=1:=by rw[k];rfl
  refine SCalls.out ?_ (nv_tv (x:=.mk x.k x.n x.s []) rfl);unfold PB nv;rw[k];refine z22 tf_34 ?_;simp only[vW,seval,hb,d1,qcV,ex,kk,w1];try rfl
 ·rw[if_pos (.inr k)]at h;cases h;have kk:qcK x.k=2:=by rw[k];rfl
  refine SCalls.out ?_ (nv_tv (x:=.mk x.k x.n x.s []) rfl);unfold PB nv;rw[k];refine z22 tf_34 ?_;simp only[vW,seval,hb,d1,qcV,ex,kk,w1];try rfl
 ·rw[if_neg (by omega),if_pos k]at h;have kk:qcK x.k=3:=by rw[k];rfl
  have HI:=rIs_ok (sz:=sz) g hL [40] (p+1) b;have HA:=refArity_ok g x.s;have q40:=bS [40];by_cases hc:isSg (pkP L sz (p+1)) [40]=true∧0<takesV x.s
  ·rw[if_pos hc]at h;have HC:=hH x.s (p+1+1) b r h;have hp2:p+1<L.length:=by
    rcases Nat.lt_or_ge (p+1) L.length with h|h
    ·exact h
    ·have:=hc.1;rw[pk_none h]at this;simp[isSg]at this
   have w2:IntKind.i64.wrap (((p+1:Nat):Int)+1)=((p+1+1:Nat):Int):=wG;have t1:=hc.2;rw[hc.1]at HI;refine z22 tf_34 ?_;generalize r.1=re at*;generalize r.2.1=rp at*;generalize r.2.2=rb at*;unfold PB B at*;simp only[vW,seval,hb,d1,qcV,ex,kk,w1,q40];refine z8 HI ?_;refine z7 HA ?_;simp only[vW,seval,t1,w2];exact z14 HC
  ·rw[if_neg hc]at h;cases h;refine SCalls.out ?_ (nv_tv (x:=.mk 3 0 x.s []) rfl);refine z22 tf_34 ?_;unfold PB B nv at*;cases hi:isSg (pkP L sz (p+1)) [40]
   ·rw[hi]at HI;simp only[vW,seval,hb,d1,qcV,ex,kk,w1,q40];refine z8 HI ?_;try trivial
   ·rw[hi]at HI;have t1:¬0<takesV x.s:=fun h=>hc ⟨hi,h⟩;simp only[vW,seval,hb,d1,qcV,ex,kk,w1,q40];refine z8 HI ?_;refine z7 HA ?_;simp only[vW,seval,t1];try rfl
 ·rw[if_neg (by omega),if_neg (by omega)]at h;have kk:qcK x.k=0:=by rw[k];rfl
  have q45:=bS [45];have q40:=bS [40];have q41:=bS [41];by_cases h45:x.s=[45]
  ·rw[if_pos h45]at h;split at h
   ·rename_i e p' b' hT2;cases h;have HT:=hT _ _ _ hT2;have s45:(x.s==[45])=true:=by simpa using h45
    refine z22 tf_34 ?_;unfold PB at*;simp only[vW,seval,hb,d1,qcV,ex,kk,w1,q45,s45];refine z7 HT ?_;simp only[vW,seval,q45];rw[show V.rows [e]=[V.row e] from rfl,row4]
   ·cases h
  rw[if_neg h45]at h;have s45:(x.s==[45])=false:=by simpa using h45
  by_cases h40:x.s=[40]
  ·rw[if_pos h40]at h;split at h
   ·rename_i e p' b' hE2;cases h;have HE:=hE _ _ _ _ hE2;have HW:=rWant_ok (sz:=sz) g hL [41] p' b';have s40:(x.s==[40])=true:=by simpa using h40
    refine z22 tf_34 ?_
    dsimp only at*
    generalize wantS L sz [41] p' b'=wr at*;unfold PB at*;simp only[vW,seval,hb,d1,qcV,ex,kk,w1,q45,s45,q40,s40];refine z7 HE ?_;simp only[vW,seval,q41];refine z8 HW ?_;try trivial
   ·cases h
  ·rw[if_neg h40]at h;cases h;have s40:(x.s==[40])=false:=by simpa using h40
   refine z22 tf_34 ?_;try dsimp only
   generalize failB L sz p b=fb at*;unfold PB at*;simp only[vW,seval,hb,d1,qcV,ex,kk,w1,q45,s45,q40,s40];refine z8 HF ?_;try trivial
end
section
open Go.Sh.Cd7
variable{g:Sh.Glob}{L:List Pc}{sz:Nat}
theorem binds_4(s:zB):0≤bindsV s∧bindsV s≤4:=by
 unfold bindsV
 repeat' split
 all_goals omega
theorem rExpr_step(hL:PcL L)(F:Nat)(hT:TX g L sz F)(hE:∀f,f<F→EX g L sz f):EX g L sz (F+1):=by
 intro least p b r h;rw[mE]at h;split at h
 case h_2=>cases h
 rename_i e p' b' hm;have HT:=hT _ _ _ hm;have hln:=hL.len;refine z22 tf_31 ?_;generalize hr1:r.1=re at*;generalize hr2:r.2.1=rp at*;generalize hr3:r.2.2=rb at*;have hr:r=(re,rp,rb):=by rw[←hr1,←hr2,←hr3]
 subst hr;have e0:=bS []
 dsimp only at HT
 unfold PB at*;simp only[vW,seval];refine z8 HT ?_;refine v_loop (σ:={x:Nat×V×Nat×Int // mL L sz x.1 least x.2.1 x.2.2.1 x.2.2.2=some (re,rp,rb)∧x.1≤F}) (fun x=>⟨[(0,.ptr 1000 0),(1,I least),(4,.ptr 4 0),(5,.ptr 5 0)],[(1000,[.pv (.sl 4 (qcR L)),I (x.1.2.2.1:Int),I (sz:Int),I x.1.2.2.2]),(4,[I 0,I 0,S (str []),.pv (.v (.slice none 0 0))]),(5,[I x.1.2.1.k,I x.1.2.1.n,S (str x.1.2.1.s),.pv (.sl 4 (V.rows x.1.2.1.l))])],[],[]⟩) (fun x=>x.1.1) ⟨(F,e,p',b'),h,Nat.le_refl _⟩ ?_ ?_
 ·apply lw_of<;>simp[leL,lk,sv,Nat.beq,I,S,ES.kill,has,drp,nilT,e0]
 clear HT hm h hT;rintro⟨⟨φ,e,p,b⟩,h,hφ⟩
 dsimp only at h hφ
 cases φ with
 |zero=>simp[mL]at h
 |succ φ=>
  rw[mL]at h;by_cases hb:b<0
  ·by_cases hp:p<L.length
   ·have d1:(p:Int)<(L.length:Int):=by omega
    obtain⟨x,ex⟩:∃q,L[p]?=some q:=⟨_,gE hp⟩
    have hq:=hL.ok x (gM ex);rw[pk_some ex]at h;by_cases k4:x.k=4
    ·have kk:qcK x.k=0:=by rw[k4];rfl
     have HB:=refBinds_ok g x.s;have hb4:=binds_4 x.s;by_cases hl:least≤bindsV x.s
     ·rw[if_pos ⟨hb,k4,hl⟩]at h;split at h
      ·rename_i e2 p2 b2 hE2;have HE:=hE φ (by omega) _ _ _ _ hE2;have w1:=wS p;have w2:IntKind.i64.wrap (bindsV x.s+1)=bindsV x.s+1:=wrap64 (by omega) (by omega);unfold PB at HE
       dsimp only at HE
       simp only[vW,seval,hb,d1,qcV,ex,kk];refine z7 HB ?_;simp only[vW,seval,hl,w1,qcV,ex,d1];refine z7 HB ?_;simp only[vW,seval,w2];refine z8 HE ?_;refine z13 ⟨(φ,.mk 4 0 x.s [e,e2],p2,b2),h,by dsimp only;omega⟩ (by show φ<φ+1;omega) ?_;have hrow:V.rows [e,e2]=[V.row e,V.row e2]:=rfl;apply lw_of<;>simp[leL,lk,sv,Nat.beq,I,S,ES.kill,has,drp,nilT,hrow,row4,Vk,Vn,Vs,Vl]
      ·cases h
     ·rw[if_neg (fun h=>hl h.2.2)]at h;cases h;simp only[vW,seval,hb,d1,qcV,ex,kk];refine z7 HB ?_;simp only[vW,seval,hl];try rfl
    ·have kk:¬qcK x.k=0:=by unfold qcK;rcases hq.k with k|k|k|k<;>rw[k]<;>first|decide|exact absurd k k4
     rw[if_neg (fun h=>k4 h.2.1)]at h;cases h;simp only[vW,seval,hb,d1,qcV,ex,kk];try rfl
   ·have d1:¬(p:Int)<(L.length:Int):=by omega
    rw[pk_none (by omega),if_neg (fun h=>by have:=h.2.1;simp at this)]at h;cases h;simp only[vW,seval,hb,d1,qcV];try rfl
  ·rw[if_neg (fun h=>hb h.1)]at h;cases h;simp only[vW,seval,hb,qcV];try rfl
theorem rCall_step(hL:PcL L)(F:Nat)(hE:∀f,f<F→EX g L sz f):HX g L sz F:=by
 intro s p b r h;have HA:=refArity_ok g s;have ht3:=takes_3 s;have e0:=bS [];have q44:=bS [44];have q41:=bS [41];have hln:=hL.len;refine z22 tf_30 ?_;generalize hr1:r.1=re at*;generalize hr2:r.2.1=rp at*;generalize hr3:r.2.2=rb at*;have hr:r=(re,rp,rb):=by rw[←hr1,←hr2,←hr3]
 subst hr;unfold PB at*;simp only[vW,seval];refine v_loop (σ:={x:Nat×Nat×Nat×Int×List V // mH L sz x.1 s x.2.1 x.2.2.1 x.2.2.2.1 x.2.2.2.2=some (re,rp,rb)∧x.1≤F∧x.2.2.2.2.length=x.2.1∧x.2.1≤3}) (fun x=>⟨[(0,.ptr 1000 0),(1,S (str s)),(4,.ptr 4 0),(5,.ptr 5 0),(6,I (x.1.2.1:Int))],[(1000,[.pv (.sl 4 (qcR L)),I (x.1.2.2.1:Int),I (sz:Int),I x.1.2.2.2.1]),(4,[I 0,I 0,S (str []),.pv (.v (.slice none 0 0))]),(5,[I 6,I 0,S (str s),.own 3000 4 (V.rows x.1.2.2.2.2)])],[(3000,(76,4,x.1.2.2.2.2.length))],[]⟩) (fun x=>x.1.1) ⟨(F,0,p,b,[]),h,Nat.le_refl _,rfl,Nat.zero_le _⟩ ?_ ?_
 ·refine ES.Lw.trans ?_ (show ES.Lw ⟨[(0,.ptr 1000 0),(1,S (str s)),(4,.ptr 4 0),(5,.ptr 5 0),(6,I 0)],[(1000,[.pv (.sl 4 (qcR L)),I (p:Int),I (sz:Int),I b]),(4,[I 0,I 0,S (str []),.pv (.v (.slice none 0 0))]),(5,[.pv (.v (.int .i64 6)),.pv (.v (.int .i64 0)),.pv (.v (.string (str s))),.pv (.v (.slice none 0 0))])],[],[]⟩ _ by apply lw_of<;>simp[leL,lk,sv,Nat.beq,I,S,ES.kill,has,drp,nilT,e0]);refine ES.Lw.trans ?_ (adB_lw (x:=5) (j:=3) (d:=3000) (e:=76) (W:=4) (.inr (by decide)) (by decide) rfl (by simp only[vcA,seval]) rfl);exact lw_eq rfl
 clear h;rintro⟨⟨φ,k,p,b,acc⟩,h,hφ,ha,hk3⟩
 dsimp only at h hφ ha hk3
 cases φ with
 |zero=>simp[mH]at h
 |succ φ=>
  rw[mH]at h;have w1:=wS k;have HW:=rWant_ok (sz:=sz) g hL [44] p b;have stop:∀(hc:¬((k:Int)<takesV s∧b<0)),some (V.mk 6 0 s acc,wantS L sz [41] p b)=some (re,rp,rb):=fun hc=>by rw[if_neg hc]at h;exact h
  by_cases hk:(k:Int)<takesV s
  ·by_cases hb:b<0
   ·rw[if_pos ⟨hk,hb⟩]at h;have hrows:∀e,V.rows (acc++[e])=V.rows acc++[V.row e]:=fun e=>by rw[z41,z41,List.map_append];rfl
    have hrl:=z65 acc;by_cases h0:0<k
    ·have d0:(0:Int)<(k:Int):=by omega
     rw[if_pos h0]at h;split at h
     ·rename_i e p2 b2 hE2;have HE:=hE φ (by omega) _ _ _ _ hE2;generalize wantS L sz [44] p b=wr at*;unfold PB at HE HW
      dsimp only at HE
      simp only[vW,seval];refine z7 HA ?_;simp only[vW,seval,hk,hb,d0,q44];refine z8 HW ?_;left;refine z7 HE ?_;simp only[vW,seval,w1,hrl];refine⟨⟨by omega,by unfold maxLen;omega⟩,z13 ⟨(φ,k+1,p2,b2,acc++[e]),h,by dsimp only;omega,by simp[ha],by dsimp only;omega⟩ (by show φ<φ+1;omega) ?_⟩;apply lw_of<;>simp[leL,lk,sv,Nat.beq,I,S,ES.kill,has,drp,nilT,hrows,row4,List.length_append,List.length_singleton]
     ·cases h
    ·have d0:¬(0:Int)<(k:Int):=by omega
     rw[if_neg h0]at h;split at h
     ·rename_i e p2 b2 hE2;have HE:=hE φ (by omega) _ _ _ _ hE2;unfold PB at HE
      dsimp only at HE
      simp only[vW,seval];refine z7 HA ?_;simp only[vW,seval,hk,hb,d0];left;refine z7 HE ?_;simp only[vW,seval,w1,hrl];refine⟨⟨by omega,by unfold maxLen;omega⟩,z13 ⟨(φ,k+1,p2,b2,acc++[e]),h,by dsimp only;omega,by simp[ha],by dsimp only;omega⟩ (by show φ<φ+1;omega) ?_⟩;apply lw_of<;>simp[leL,lk,sv,Nat.beq,I,S,ES.kill,has,drp,nilT,hrows,row4,List.length_append,List.length_singleton]
     ·cases h
   ·have h:=stop (fun h=>hb h.2);have HW:=rWant_ok (sz:=sz) g hL [41] p b;generalize wantS L sz [41] p b=wr at*;obtain⟨wp,wb⟩:=wr;cases h;unfold PB at HW
    dsimp only at HW
    simp only[vW,seval];refine z7 HA ?_;simp only[vW,seval,hk,hb,q41];refine z8 HW ?_;try trivial
  ·have h:=stop (fun h=>hk h.1);have HW:=rWant_ok (sz:=sz) g hL [41] p b;generalize wantS L sz [41] p b=wr at*;obtain⟨wp,wb⟩:=wr;cases h;unfold PB at HW
   dsimp only at HW
   simp only[vW,seval];refine z7 HA ?_;simp only[vW,seval,hk,q41];refine z8 HW ?_;try trivial
theorem rAll(hL:PcL L):∀F:Nat,(∀f,f≤F→EX g L sz f)∧(∀f,f≤F→TX g L sz f)
  | 0 => ⟨fun f hf => by obtain rfl : f = 0 := by omega
                         intro least p b r h; simp [mE] at h, fun f hf => by obtain rfl : f = 0 := by omega
                                                                             intro p b r h;simp[mT]at h⟩
  |F+1=>by
    obtain⟨h1,h2⟩:=rAll hL F
    refine⟨fun f hf=> ?_,fun f hf=> ?_⟩
    · rcases Nat.lt_or_ge f (F+1)with h|h
      · exact h1 f (by omega)
      · obtain rfl:f=F+1:=by omega
        exact rExpr_step hL F (h2 F (Nat.le_refl _)) (fun f hf=>h1 f (by omega))
    · rcases Nat.lt_or_ge f (F+1)with h|h
      · exact h2 f (by omega)
      · obtain rfl:f=F+1:=by omega
        exact rTight_step hL F (h2 F (Nat.le_refl _)) (h1 F (Nat.le_refl _)) (rCall_step hL F (fun f hf=>h1 f (by omega)))
end
section
open Go.Sh.Cd5
def roomV(d:Nat)(e:V)(n:Nat):Int:=if okE d e=true∧szE d e≤n then((n-szE d e:Nat):Int)else -1
def roomL(d:Nat):List V→Nat→Int
 |[],n=>n
 |x::l,n=>if okE d x=true∧szE d x≤n then roomL d l (n-szE d x)else -1
theorem roomL_eq(d:Nat):∀(l:List V) (n:Nat),roomL d l n=if(∀x∈l,okE d x=true)∧(l.map (szE d)).sum≤n then((n-(l.map (szE d)).sum:Nat):Int)else -1
 |[],n=>by simp[roomL]
 |x::l,n=>by
  have ih:=roomL_eq d l (n-szE d x);unfold roomL;by_cases h1:okE d x=true∧szE d x≤n
  ·rw[if_pos h1,ih];by_cases h2:(∀y∈l,okE d y=true)∧(l.map (szE d)).sum≤n-szE d x
   ·rw[if_pos h2,if_pos]
    ·rw[List.map_cons,List.sum_cons];congr 1;omega
    ·refine⟨fun y hy=> ?_,by rw[List.map_cons,List.sum_cons];omega⟩;rcases List.mem_cons.1 hy with rfl|hy
     ·exact h1.1
     ·exact h2.1 y hy
   ·rw[if_neg h2,if_neg];rintro⟨h3,h4⟩;rw[List.map_cons,List.sum_cons]at h4;exact h2 ⟨fun y hy=>h3 y (List.mem_cons_of_mem _ hy),by omega⟩
  ·rw[if_neg h1,if_neg];rintro⟨h3,h4⟩;rw[List.map_cons,List.sum_cons]at h4;exact h1 ⟨h3 x (List.mem_cons_self ..),by omega⟩
theorem roomV_eq(d:Nat)(e:V)(n:Nat):roomV (d+1) e (n+1)=if nodeE e then roomL d e.l n else -1:=by
 unfold roomV;rw[roomL_eq,okE,szE];cases hn:nodeE e
 ·simp
 ·simp only[Bool.true_and,if_true,List.all_eq_true];by_cases h:(∀x∈e.l,okE d x=true)∧(e.l.map (szE d)).sum≤n
  ·rw[if_pos h,if_pos ⟨h.1,by omega⟩];congr 1;omega
  ·rw[if_neg h,if_neg];rintro⟨h1,h2⟩;exact h ⟨h1,by omega⟩
def leftT(c:Option Nat):Int:=match c with|some n=>(n:Int)|none=> -1
theorem refRoom_ok(g:Sh.Glob):∀(d:Nat),d≤8→∀(e:V),ESmall e→∀(n:Nat),n≤40→zC g 268 [tv e,I (d:Int),I (n:Int)] [] (I (roomV d e n)) []:=by
 intro d
 induction d with
 |zero=>
  intro _ e he n hn;refine z10 tf_134 ?_;rw[show roomV 0 e n= -1 by unfold roomV;simp[okE]];simp only[vW,seval]
 |succ d ih=>
  intro hd e he n hn;refine z10 tf_134 ?_;have d0:¬((d+1:Nat):Int)<1:=by omega
  have HN:=refNode_ok g e he;have HD:=fun e he n hn=>ih (by omega) e he n hn;have hl:=he.len;have w2:IntKind.i64.wrap (((d+1:Nat):Int) - 1)=(d:Int):=wG;unfold B at*;cases n with
  |zero=>
   rw[show roomV (d+1) e 0= -1 by unfold roomV szE;rw[if_neg (by omega)]];simp only[vW,seval,d0]
  |succ n=>
  have d1:¬((n+1:Nat):Int)<1:=by omega
  have w1:IntKind.i64.wrap (((n+1:Nat):Int) - 1)=(n:Int):=wG;rw[roomV_eq];simp only[vW,seval,d0,d1];refine z27 HN ?_;cases hN:nodeE e
  ·simp only[vW,seval,d0,d1];try simp
  simp only[if_true];simp only[vW,seval,d0,d1,w1];generalize hR:roomL d e.l n=R;refine v_loop (σ:={x:Nat×Option Nat // x.1≤e.l.length∧(match x.2 with|some n=>n≤40∧roomL d (e.l.drop x.1) n=R|none=>R= -1)})
   (fun x=>⟨[(1,I ((d+1:Nat):Int)),(2,I (leftT x.1.2)),(3,.ptr 3 0),(7,I (x.1.1:Int))],[(3,[I e.k,I e.n,S (str e.s),.pv (.sl 4 (V.rows e.l))])],[],[]⟩)
   (fun x=>e.l.length-x.1.1) ⟨(0,some n),by omega,by omega,by simpa using hR⟩ ?_ ?_
  ·apply lw_of<;>simp[leL,lk,sv,Nat.beq,I,S,ES.kill,has,drp,nilT,leftT]
  rintro⟨⟨i,c⟩,hi,hq⟩;simp only at hi;have w3:=wS i;by_cases hlt:i<e.l.length
  ·have d2:(i:Int)<(e.l.length:Int):=by omega
   obtain⟨y,ey⟩:∃y,e.l[i]?=some y:=⟨_,gE hlt⟩
   have hdr:e.l.drop i=y::e.l.drop (i+1):=by rw[List.drop_eq_getElem_cons hlt];congr 1;exact(gJ ey).2
   cases c with
   |none=>
    have hq:R= -1:=hq;unfold leftT;simp only[vW,seval,d2];rw[hq]
   |some n1=>
    obtain⟨hn1,hq⟩:=hq;simp only at hq;rw[hdr]at hq;unfold roomL at hq;have d3:(0:Int)≤(n1:Int):=by omega
    have HY:=HD y (he.sub (gM ey)) n1 hn1;unfold roomV at HY;unfold leftT;by_cases hy:okE d y=true∧szE d y≤n1
    ·rw[if_pos hy]at hq HY;simp only[vW,seval,d2,d3,ey,w2];refine z27 HY ?_;simp only[vW,seval,w3];refine z13 ⟨(i+1,some (n1-szE d y)),by simp only;omega,by omega,hq⟩ (by show e.l.length-(i+1)<e.l.length-i;omega) ?_;apply lw_of<;>simp[leL,lk,sv,Nat.beq,I,S,ES.kill,has,drp,nilT,leftT]
    ·rw[if_neg hy]at hq HY;simp only[vW,seval,d2,d3,ey,w2];refine z27 HY ?_;simp only[vW,seval,w3];refine z13 ⟨(i+1,none),by simp only;omega,hq.symm⟩ (by show e.l.length-(i+1)<e.l.length-i;omega) ?_;apply lw_of<;>simp[leL,lk,sv,Nat.beq,I,S,ES.kill,has,drp,nilT,leftT]
  ·have d2:¬(i:Int)<(e.l.length:Int):=by omega
   obtain rfl:i=e.l.length:=by omega
   cases c with
   |none=>
    have hq:R= -1:=hq;unfold leftT;simp only[vW,seval,d2];rw[hq]
   |some n1=>
    obtain⟨hn1,hq⟩:=hq;simp only at hq;rw[List.drop_length]at hq;unfold roomL at hq;unfold leftT;simp only[vW,seval,d2];rw[hq]
theorem refRightE_ok(g:Sh.Glob)(e:V)(he:ESmall e):zC g 230 [tv e] [] (B (rightE e)) []:=by
 have HR:=refRoom_ok g 8 (by omega) e he 40 (by omega);have hr:decide (0≤roomV 8 e 40)=rightE e:=by
  unfold roomV rightE;rw[Bool.eq_iff_iff];by_cases h:okE 8 e=true∧szE 8 e≤40
  ·rw[if_pos h];simp[h.1,h.2]
  ·rw[if_neg h];simp only[Int.reduceNeg,decide_eq_true_eq,Bool.and_eq_true];exact⟨fun h1=>absurd h1 (by omega),fun h1=>absurd h1 h⟩
 unfold B;refine z43 tf_130 ?_;refine z27 HR ?_;simp only[vW,seval,hr]
end
section
open Go.Sh.Cd7
theorem readP_ok{l:zB}{a:Nat}{q:Pc}{z:Nat}(h:readP l a=some (q,z)):PcOk q:=by
 cases l with
 |nil=>cases h
 |cons b r=>
  rw[readP]at h;split at h
  ·split at h
   ·cases h
   ·cases h;exact⟨.inl rfl,fun h=>by simp at h,fun _=>rfl⟩
  split at h
  ·split at h
   ·cases h;exact⟨.inr (.inr (.inl rfl)),fun h=>by simp at h,fun h=>by simp at h⟩
   ·cases h
  split at h
  ·split at h
   ·cases h;exact⟨.inr (.inl rfl),fun _=>rfl,fun h=>by simp at h⟩
   ·cases h
  split at h
  ·cases h
  ·cases h;exact⟨.inr (.inr (.inr rfl)),fun h=>by simp at h,fun h=>by simp at h⟩
theorem qcR_snoc(L:List Pc)(q:Pc):qcR (L++[q])=qcR L++[qcR1 q]:=by unfold qcR;rw[List.map_append];rfl
def errQ(a c:Int):TV:=.tuple [.agg zeroE,I a,I c]
def endQ(L:List Pc)(sz:Nat)(e:V)(q:Nat)(b:Int):TV:=
 if 0≤b then errQ b 50 else if q<L.length then errQ ((pkP L sz q).p:Int) 50 else if rightE e then .tuple [tv e,I 0,I 0] else errQ 0 51
theorem z190(g:Sh.Glob)(s:zB)(hs:s.length≤200)(X:Lx)(f:Nat)(hX:lexG f s 0 []=some X)(Q:TV)(hbad:∀a,X=.bad a→Q=errQ (a:Int) 50)
  (hok:∀L,X=.ok L→∃e q b F,mE L s.length F 1 0 (-1)=some (e,q,b)∧(b<0→ESmall e)∧Q=endQ L s.length e q b):zC g 174 [S (str s)] [] Q []:=by
 have d0:¬(200:Int)<(s.length:Int):=by omega
 have e0:=bS [];refine z118 tf_129 ?_;simp only[vW,seval,d0,e0];refine v_loop (σ:={x:Nat×List Pc // x.1≤s.length∧(∃f,lexG f (s.drop x.1) x.1 x.2=some X)∧(∀q∈x.2,PcOk q)∧x.2.length≤x.1}) (fun x=>⟨[(0,S (str s)),(2,.ptr 2 0),(5,.ptr 17 0),(6,I (x.1.1:Int))],[(2,[I 0,I 0,S (str []),.pv (.v (.slice none 0 0))]),(17,[.own 3000 4 (qcR x.1.2),I 0,I (s.length:Int),I (-1)])],[(3000,(278,4,x.1.2.length))],[]⟩) (fun x=>s.length-x.1.1) ⟨(0,[]),Nat.zero_le _,⟨f,hX⟩,by simp,Nat.le_refl _⟩ ?_ ?_
 ·refine ES.Lw.trans ?_ (show ES.Lw ⟨[(0,S (str s)),(2,.ptr 2 0),(5,.ptr 17 0),(6,I 0)],[(2,[I 0,I 0,S (str []),.pv (.v (.slice none 0 0))]),(17,[.pv (.v (.slice none 0 0)),.pv (.v (.int .i64 0)),.pv (.v (.int .i64 (s.length:Int))),.pv (.v (.int .i64 (-1)))])],[],[]⟩ _ by apply lw_of<;>simp[leL,lk,sv,Nat.beq,I,S,ES.kill,has,drp,nilT,e0]);refine ES.Lw.trans ?_ (adB_lw (x:=17) (j:=0) (d:=3000) (e:=278) (W:=4) (.inr (by decide)) (by decide) rfl (by simp only[vcA,seval]) rfl);exact lw_eq rfl
 clear hX;rintro⟨⟨i,acc⟩,hi,⟨f,hX⟩,hA,hal⟩
 dsimp only at hi hX hA hal
 by_cases hlt:i<s.length
 ·have d1:(i:Int)<(s.length:Int):=by omega
  obtain⟨b,eb⟩:∃b,s[i]?=some b:=⟨_,gE hlt⟩
  have hdr:s.drop i=b::s.drop (i+1):=by rw[List.drop_eq_getElem_cons hlt];congr 1;rw[gE hlt]at eb;exact Option.some.inj eb
  have w1:=wS i;have hbl:=b.toNat_lt;cases f with
  |zero=>cases hX
  |succ f=>
   by_cases h32:b=32
   ·subst h32;rw[hdr,lexG]at hX;simp only[if_true]at hX;simp only[vW,seval,d1,eb,w1];refine z13 ⟨(i+1,acc),hlt,⟨f,hX⟩,hA,by dsimp only;omega⟩ (by show s.length-(i+1)<s.length-i;omega) ?_;exact lwA
   have t32:¬(b.toNat:Int)=32:=b_ne b 32 h32;have HN:=refNext_ok g s i (by omega) hlt;have hX':(match readP (s.drop i) i with|none=>some (.bad i)|some (q,z)=>lexG f ((s.drop i).drop z) (i+z) (acc++[q]))=some X:=by
    rw[hdr,lexG]at hX;simp only[h32,if_false]at hX;rw[hdr];exact hX
   cases hr:readP (s.drop i) i with
   |none=>
    rw[hr]at hX' HN;obtain⟨k,n,t,HN⟩:=HN;cases hX';rw[hbad i rfl];unfold errQ zeroE;simp only[vW,seval,d1,eb,t32];refine z7 HN ?_;simp only[vW,seval,e0];try rfl
   |some x=>
    obtain⟨q,z⟩:=x;rw[hr]at hX' HN
    dsimp only at hX'
    have hz:=readP_pos (b:=b) (r:=s.drop (i+1)) (by rw[←hdr];exact hr);have hzl:i+z≤s.length:=by have:=hz.2.1;simp only[List.length_cons,List.length_drop]at this;omega
    have hz0:¬((i+z:Nat):Int)=0:=by omega
    have HN:zC g 227 [S (str s),I (i:Int)] [] (.tuple [qcT q,I ((i+z:Nat):Int)]) []:=HN;unfold qcT at HN;have hlen:=qcLen acc;rw[List.drop_drop]at hX';simp only[vW,seval,d1,eb,t32];refine z7 HN ?_;simp only[vW,seval,hz0,hlen];refine⟨⟨by omega,by unfold maxLen;omega⟩,z13 ⟨(i+z,acc++[q]),hzl,⟨f,hX'⟩,fun y hy=> ?_,by simp;omega⟩ (by show s.length-(i+z)<s.length-i;omega) ?_⟩
    ·rcases List.mem_append.1 hy with hy|hy
     ·exact hA y hy
     ·obtain rfl:=List.mem_singleton.1 hy;exact readP_ok hr
    ·simp only[qcR_snoc];apply lw_of<;>simp[leL,lk,sv,Nat.beq,I,S,ES.kill,has,drp,nilT,qcR1,List.length_append,List.length_singleton]
 ·have d1:¬(i:Int)<(s.length:Int):=by omega
  have hXa:X=.ok acc:=by
   cases f with
   |zero=>cases hX
   |succ f=>
    rw[List.drop_eq_nil_of_le (by omega),lexG]at hX;cases hX;rfl
  obtain⟨e,q,b,F,hm,hsm,hQ⟩:=hok acc hXa;have hL:PcL acc:=⟨hA,by omega⟩
  have HE:=(rAll (g:=g) (sz:=s.length) hL F).1 F (Nat.le_refl _) 1 0 (-1) _ hm;have HF:=rFail_ok (sz:=s.length) g hL q b
  dsimp only at HE
  rw[hQ];unfold endQ errQ;clear hQ;unfold PB at HE HF;by_cases hb:0≤b
  ·rw[if_pos hb];have nb:¬b<0:=by omega
   unfold zeroE;simp only[vW,seval,d1];refine z7 HE ?_;simp only[vW,seval,nb,hb,e0];try rfl
  rw[if_neg hb];have nb:b<0:=by omega
  by_cases hq:q<acc.length
  ·rw[if_pos hq];have d2:(q:Int)<(acc.length:Int):=by omega
   have hfb:failB acc s.length q b=((pkP acc s.length q).p:Int):=by unfold failB;rw[if_pos nb]
   rw[hfb]at HF;generalize(pkP acc s.length q).p=fp at*;unfold zeroE;simp only[vW,seval,d1];refine z7 HE ?_;simp only[vW,seval,nb,hb,e0,qcV,d2];refine z7 HF ?_;simp only[vW,seval,e0];try rfl
  rw[if_neg hq];have d2:¬(q:Int)<(acc.length:Int):=by omega
  have HR:=refRightE_ok g e (hsm nb);unfold B at HR;cases hre:rightE e
  ·rw[hre]at HR;unfold zeroE;simp only[Bool.false_eq_true,if_false];simp only[vW,seval,d1];refine z7 HE ?_;simp only[vW,seval,nb,hb,e0,qcV,d2];refine z7 HR ?_;simp only[vW,seval,e0];try rfl
  ·rw[hre]at HR;simp only[if_true];simp only[vW,seval,d1];refine z7 HE ?_;simp only[vW,seval,nb,hb,e0,qcV,d2];refine z7 HR ?_;simp only[vW,seval,e0];try rfl
theorem refSingle_ok(g:Sh.Glob)(k:Int):zC g 226 [I k] [] (B (decide (1≤k)&&decide (k≤4))) []:=by
 refine z10 tf_126 ?_;unfold B;by_cases h1:1≤k
 ·simp only[vW,seval,h1]
 ·simp only[vW,seval,h1]
theorem refRT_ok(g:Sh.Glob)(t:Ty):zC g 171 [tyT t] [] (B (z16 t)) []:=by
 obtain⟨k,o⟩:=t;have H1:=refSingle_ok g k;have H2:=refSingle_ok g o;refine z10 tf_124 ?_;have hR:z16 ⟨k,o⟩=((decide (1≤k)&&decide (k≤4))&&decide (o=0)||decide (k=5)&&(decide (1≤o)&&decide (o≤4))):=by
  unfold z16;rw[Bool.eq_iff_iff];by_cases h:k=5
  ·subst h;simp
  ·rw[if_neg h];simp[h];omega
 rw[hR];have h15:(decide (1≤k)&&decide (k≤4))=true→decide (k=5)=false:=fun h=>by simp at h ⊢;omega
 generalize(decide (1≤k)&&decide (k≤4))=x at*;generalize(decide (1≤o)&&decide (o≤4))=y at*;unfold B tyT at*;simp only[vW,seval];refine z7 H1 ?_;cases x
 ·by_cases h5:k=5
  ·simp only[vW,seval,h5];exact z14 H2
  ·simp only[vW,seval,h5]
 ·by_cases h0:o=0
  ·simp only[vW,seval,h0];rw[Bool.true_or]
  ·have h5:¬k=5:=by simpa using h15 rfl
   simp only[vW,seval,h0,h5]
theorem z195{α:Type}(p:α→Bool)(l:List α)(k:Nat)(h:z54 p l=k)(i:Nat)(y:α)(hi:i<k)(hy:l[i]?=some y):p y=false:=by
 cases hp:p y with
 |false=>rfl
 |true=>
  exfalso;obtain⟨q,hq⟩:∃q,l.findIdx? p=some q:=by
   cases hf:l.findIdx? p with
   |some q=>exact⟨q,rfl⟩
   |none=>
    rw[List.findIdx?_eq_none_iff]at hf;have:=hf y (gM hy);rw[hp]at this;cases this
  have hqk:(q:Int)=k:=by rw[←h];simp[z54,hq]
  rw[List.findIdx?_eq_some_iff_getElem]at hq;obtain⟨h1,_,h3⟩:=hq;obtain⟨hi2,rfl⟩:=gJ hy;exact h3 i (by omega) hp
theorem refRight4_ok(g:Sh.Glob)(c:Cls)(hc:ClsOk c):zC g 112 [clT c] [] (B (z19 c)) []:=by
 have HN:=refName_ok g c.n hc.n;have hlen:=hc.len;obtain⟨R,hR⟩:∃R,z19 c=R:=⟨_,rfl⟩
 rw[hR];unfold z19 at hR;refine z10 tf_123 ?_;unfold B at*;simp only[vW,seval,clV];refine z7 HN ?_;cases h1:z11 c.n
 ·rw[h1]at hR;subst hR;simp only[vW,seval]
 rw[h1,Bool.true_and]at hR;by_cases h8:c.fs.length≤8
 ·rw[decide_eq_true h8,Bool.true_and]at hR;have d8:¬(8:Int)<(c.fs.length:Int):=by omega
  simp only[vW,seval,d8,clV];refine v_loop (σ:={k:Nat // k≤c.fs.length∧onceGo c.fs k (c.fs.drop k)=R}) (fun k=>⟨[(1,.ptr 1 0),(3,I (k.1:Int))],[(1,[S (str c.n),.pv (.sl 4 (flR c.fs))])],[],[]⟩) (fun k=>c.fs.length-k.1) ⟨0,Nat.zero_le _,by simpa using hR⟩ ?_ ?_
  ·exact lwA
  rintro⟨k,hk,hT⟩;by_cases hlt:k<c.fs.length
  ·have d1:(k:Int)<(c.fs.length:Int):=by omega
   obtain⟨f,ef⟩:∃f,c.fs[k]?=some f:=⟨_,gE hlt⟩
   have hmem:=gM ef;have HF:=refName_ok g f.n (hc.fs f hmem);have HT:=refRT_ok g f.t;have w1:=wS k;have hdr:c.fs.drop k=f::c.fs.drop (k+1):=by
    rw[List.drop_eq_getElem_cons hlt];congr 1;rw[gE hlt]at ef;exact Option.some.inj ef
   rw[hdr,once_step]at hT;have hrf:z26 f=(z11 f.n&&z16 f.t&&(!f.ix||decide (f.t.k≤3))):=rfl;unfold tyT B at*;simp only[vW,seval,d1,ef,clV];refine z7 HF ?_;cases h2:z11 f.n
   ·rw[hrf,h2]at hT;simp only[Bool.false_and]at hT;subst hT;simp only[vW,seval]
   simp only[vW,seval];refine z7 HT ?_;cases h3:z16 f.t
   ·rw[hrf,h2,h3]at hT;simp only[Bool.false_and,Bool.and_false]at hT;subst hT;simp only[vW,seval]
   rw[hrf,h2,h3,Bool.true_and,Bool.true_and]at hT;have inner:∀(hR2:(fieldAt c.fs f.n==(k:Int)&&onceGo c.fs (k+1) (c.fs.drop (k+1)))=R),True:=fun _=>trivial;have hix:(f.ix=false∧(!f.ix||decide (f.t.k≤3))=true)∨(f.ix=true∧f.t.k≤3∧(!f.ix||decide (f.t.k≤3))=true)∨(f.ix=true∧¬f.t.k≤3∧(!f.ix||decide (f.t.k≤3))=false):=by
    cases f.ix
    ·exact .inl ⟨rfl,rfl⟩
    ·by_cases h:f.t.k≤3
     ·exact .inr (.inl ⟨rfl,h,by rw[decide_eq_true h];rfl⟩)
     ·exact .inr (.inr ⟨rfl,h,by rw[decide_eq_false h];rfl⟩)
   rcases hix with⟨e1,e2⟩|⟨e1,e3,e2⟩|⟨e1,e3,e2⟩
   ·rw[e2,Bool.true_and]at hT;simp only[vW,seval,e1];refine v_loop (σ:={j:Nat // j≤k∧∀i y,i<j→c.fs[i]?=some y→(y.n==f.n)=false}) (fun j=>⟨[(1,.ptr 1 0),(3,I (k:Int)),(4,.ptr 4 0),(5,I (j.1:Int))],[(1,[S (str c.n),.pv (.sl 4 (flR c.fs))]),(4,[S (str f.n),I f.t.k,I f.t.o,.pv (.v (.bool f.ix))])],[],[]⟩) (fun j=>k-j.1) ⟨0,Nat.zero_le _,fun i y h=>by omega⟩ ?_ ?_
    ·apply lw_of<;>simp[leL,lk,sv,Nat.beq,I,S,ES.kill,has,drp,nilT,e1]
    rintro⟨j,hj,hno⟩;by_cases hjk:j<k
    ·have d2:(j:Int)<(k:Int):=by omega
     obtain⟨y,ey⟩:∃y,c.fs[j]?=some y:=⟨_,gE (by omega)⟩
     have w2:=wS j;cases hy:(y.n==f.n)
     ·simp only[vW,seval,d2,ey,hy,clV,w2];refine z13 ⟨j+1,by omega,fun i z hi hz=> ?_⟩ (by show k-(j+1)<k-j;omega) ?_
      ·by_cases hij:i=j
       ·subst hij;rw[ey]at hz;cases hz;exact hy
       ·exact hno i z (by omega) hz
      ·exact lwA
     ·have hne:(fieldAt c.fs f.n==(k:Int))=false:=by
       rw[beq_eq_false_iff_ne];intro he;have:=z195 (fun x:Fld=>x.n==f.n) c.fs k he j y hjk ey;rw[hy]at this;cases this
      rw[hne,Bool.false_and]at hT;subst hT;simp only[vW,seval,d2,ey,hy,clV]
    ·have d2:¬(j:Int)<(k:Int):=by omega
     obtain rfl:j=k:=by omega
     have he:(fieldAt c.fs f.n==(j:Int))=true:=by
      rw[beq_iff_eq];exact firstAt_eq (fun x:Fld=>x.n==f.n) c.fs j f ef (by simp) (fun i y hi hy=>hno i y hi hy)
     rw[he,Bool.true_and]at hT;simp only[vW,seval,d2,w1];refine z13 ⟨j+1,hlt,hT⟩ (by show c.fs.length-(j+1)<c.fs.length-j;omega) ?_;exact lwA
   ·rw[e2,Bool.true_and]at hT;have e4:¬(3:Int)<f.t.k:=by omega
    simp only[vW,seval,e1,e4];refine v_loop (σ:={j:Nat // j≤k∧∀i y,i<j→c.fs[i]?=some y→(y.n==f.n)=false}) (fun j=>⟨[(1,.ptr 1 0),(3,I (k:Int)),(4,.ptr 4 0),(5,I (j.1:Int))],[(1,[S (str c.n),.pv (.sl 4 (flR c.fs))]),(4,[S (str f.n),I f.t.k,I f.t.o,.pv (.v (.bool f.ix))])],[],[]⟩) (fun j=>k-j.1) ⟨0,Nat.zero_le _,fun i y h=>by omega⟩ ?_ ?_
    ·apply lw_of<;>simp[leL,lk,sv,Nat.beq,I,S,ES.kill,has,drp,nilT,e1]
    rintro⟨j,hj,hno⟩;by_cases hjk:j<k
    ·have d2:(j:Int)<(k:Int):=by omega
     obtain⟨y,ey⟩:∃y,c.fs[j]?=some y:=⟨_,gE (by omega)⟩
     have w2:=wS j;cases hy:(y.n==f.n)
     ·simp only[vW,seval,d2,ey,hy,clV,w2];refine z13 ⟨j+1,by omega,fun i z hi hz=> ?_⟩ (by show k-(j+1)<k-j;omega) ?_
      ·by_cases hij:i=j
       ·subst hij;rw[ey]at hz;cases hz;exact hy
       ·exact hno i z (by omega) hz
      ·exact lwA
     ·have hne:(fieldAt c.fs f.n==(k:Int))=false:=by
       rw[beq_eq_false_iff_ne];intro he;have:=z195 (fun x:Fld=>x.n==f.n) c.fs k he j y hjk ey;rw[hy]at this;cases this
      rw[hne,Bool.false_and]at hT;subst hT;simp only[vW,seval,d2,ey,hy,clV]
    ·have d2:¬(j:Int)<(k:Int):=by omega
     obtain rfl:j=k:=by omega
     have he:(fieldAt c.fs f.n==(j:Int))=true:=by
      rw[beq_iff_eq];exact firstAt_eq (fun x:Fld=>x.n==f.n) c.fs j f ef (by simp) (fun i y hi hy=>hno i y hi hy)
     rw[he,Bool.true_and]at hT;simp only[vW,seval,d2,w1];refine z13 ⟨j+1,hlt,hT⟩ (by show c.fs.length-(j+1)<c.fs.length-j;omega) ?_;exact lwA
   ·rw[e2]at hT;simp only[Bool.false_and]at hT;subst hT;have e4:(3:Int)<f.t.k:=by omega
    simp only[vW,seval,e1,e4]
  ·have d1:¬(k:Int)<(c.fs.length:Int):=by omega
   have hdr:c.fs.drop k=[]:=List.drop_eq_nil_of_le (by omega);rw[hdr]at hT;simp only[vW,seval,d1,clV];rw[←hT];rfl
 ·rw[decide_eq_false h8]at hR;subst hR;have d8:(8:Int)<(c.fs.length:Int):=by omega
  simp only[vW,seval,d8,clV]
end
end Go.Proofs.YtcpaleaajdilgaaGreatDoor
end

section
namespace Go.Mor
open Go
def partR(r:Ty×Bool):Int:=if r.2=true∧(r.1.k=1∨r.1.k=2)then r.1.k else 0
theorem partR_eq{r:Ty×Bool}{i:Int}(hi:i=1∨i=2):partR r=i ↔ r.2=true∧r.1.k=i:=by
 grind [partR]
def kidT6(t:V→Ty×Bool)(l:List V)(F:List Ty→Ty×Bool):Ty×Bool:=match kidsT t l with
 |none=>(ty0,false)
 |some ps=>F ps
theorem typeV_node(fs:List Fld)(d:Nat)(e:V):typeV fs (d+1) e=kidT6 (typeV fs d) e.l (nodeT fs e):=rfl
theorem take_all(t:V→Ty×Bool)(k:Int):∀(l:List V) (ks:List Int),l.length=ks.length→(∀i∈ks,i=1∨i=2)→
  ((kidT6 t l (takeT k ks)).2=true ↔ ∀(j:Nat) y i,l[j]?=some y→ks[j]?=some i→partR (t y)=i)∧((kidT6 t l (takeT k ks)).2=true→(kidT6 t l (takeT k ks)).1=⟨k,0⟩):=by
 intro l ks hl hk;have key:∀(l:List V) (ks:List Int),l.length=ks.length→(∀i∈ks,i=1∨i=2)→((∃ps,kidsT t l=some ps∧takeG ps ks=true) ↔ ∀(j:Nat) y i,l[j]?=some y→ks[j]?=some i→partR (t y)=i):=by
  intro l
  induction l with
  |nil=>
   intro ks h _;refine⟨fun _ j y i hj=>by simp at hj,fun _=>⟨[],rfl,by cases ks<;>rfl⟩⟩
  |cons x l ih=>
   intro ks h hk;cases ks with
   |nil=>simp at h
   |cons i ks=>
    have ih:=ih ks (by grind) (fun j hj=>hk j (List.mem_cons_of_mem _ hj));have hi:=hk i (List.mem_cons_self ..);constructor
    ·rintro⟨ps,h1,h2⟩ j y i' hj hi';rw[kidsT]at h1;split at h1
     ·rename_i hx;obtain⟨qs,h3,rfl⟩:=gO h1;simp only[takeG,Bool.and_eq_true,beq_iff_eq]at h2;cases j with
      |zero=>
       simp at hj hi';subst hj;subst hi';exact(partR_eq hi).2 ⟨hx,h2.1⟩
      |succ j=>grind
     ·cases h1
    ·intro hq;have h0:=(partR_eq hi).1 (hq 0 x i rfl rfl);obtain⟨qs,h3,h4⟩:=ih.2 fun j y i' hj hi'=>hq (j+1) y i' (by grind) (by grind);refine⟨(t x).1::qs,by rw[kidsT,if_pos h0.1,h3];rfl,?_⟩;simp only[takeG,Bool.and_eq_true,beq_iff_eq]
     grind
 have:=key l ks hl hk;rw[←this];unfold kidT6;cases h:kidsT t l with
 |none=>simp
 |some ps=>
  grind [takeT,takeG]
theorem alike_two(t:V→Ty×Bool)(a b:V)(hz:∀y∈[a,b],(t y).2=true→((t y).1.k=1∨(t y).1.k=2)→(t y).1.o=0)(F:List Ty→Ty×Bool)(hF:∀p q,F [p,q]=(⟨1,0⟩,alikeT p q)):
  ((kidT6 t [a,b] F).2=true ↔ 0<partR (t a)∧partR (t a)=partR (t b))∧((kidT6 t [a,b] F).2=true→(kidT6 t [a,b] F).1=⟨1,0⟩):=by
 unfold kidT6;simp only[kidsT]
 grind [partR,alikeT,eqTy]
theorem choose_three(t:V→Ty×Bool)(a b d:V)(hz:∀y∈[a,b,d],(t y).2=true→((t y).1.k=1∨(t y).1.k=2)→(t y).1.o=0):
  ((kidT6 t [a,b,d] z95).2=true ↔ partR (t a)=1∧0<partR (t b)∧partR (t b)=partR (t d))∧((kidT6 t [a,b,d] z95).2=true→(kidT6 t [a,b,d] z95).1=⟨partR (t b),0⟩):=by
 unfold kidT6;have hb:=hz b (by simp);have hd:=hz d (by simp);simp only[kidsT];unfold partR;generalize t a=p at*;generalize t b=q at*;generalize t d=r at*;obtain⟨⟨k,o⟩,x⟩:=p;obtain⟨⟨k',o'⟩,x'⟩:=q;obtain⟨⟨k2,o2⟩,x2⟩:=r;cases x<;>cases x'<;>cases x2<;>simp[z95,alikeT,eqTy]at*<;>(try omega)
 grind
theorem typ_right{fs:List Fld}(hfs:∀f∈fs,z16 f.t=true){d:Nat}{e:V}{t:Ty}(he:okE d e=true)(ht:typeV fs d e=(t,true)):z16 t=true:=by
 have h:FitAll fs (fs.map fun f=>zeroV f.t):=⟨hfs,by simp,fun i f v hf hv=>by
  rw[List.getElem?_map,hf]at hv;cases hv;exact fits_zero _ (hfs f (gM hf))⟩
 have:=z184 h d e t he ht;unfold fitsV at this;simp at this;exact this.1.1.2
theorem typ_zero{fs:List Fld}(hfs:∀f∈fs,z16 f.t=true){d:Nat}{e:V}(he:okE d e=true)(h:(typeV fs d e).2=true)(hk:(typeV fs d e).1.k=1∨(typeV fs d e).1.k=2):(typeV fs d e).1.o=0:=by
 have:=typ_right hfs he (t:=(typeV fs d e).1) (by rw[←h])
 grind [z16]
end Go.Mor
end

section
namespace Go.Proofs.YtcpaleaajdilgaaGreatDoor
open Go Go.RowKit Go.Mor Go.Sh Go.Sh.Cd1 Go.Sh.Cd7
theorem part6_ok(g:Sh.Glob)(c:Cls)(e:V)(r:Ty×Bool)(t:Ty)(HK:zC g 231 [tv e,clT c] [] (.tuple [tyT t,B r.2]) [])(ht:r.2=true→t=r.1):zC g 269 [tv e,clT c] [] (I (partR r)) []:=by
 obtain⟨⟨k,o⟩,b⟩:=r;unfold clT tyT B at*;cases b with
 |false=>
  rw[show partR (⟨k,o⟩,false)=0 by unfold partR;simp];refine z43 tf_140 ?_;exact z14 HK
 |true=>
  obtain rfl:=ht rfl;refine z10 tf_140 ?_;by_cases h1:k=1
  ·rw[show partR (⟨k,o⟩,true)=k by unfold partR;simp[h1]];simp only[vW,seval];refine z7 HK ?_;simp only[vW,seval,h1]
  by_cases h2:k=2
  ·rw[show partR (⟨k,o⟩,true)=k by unfold partR;simp[h2]];simp only[vW,seval];refine z7 HK ?_;simp only[vW,seval,h1,h2]
  rw[show partR (⟨k,o⟩,true)=0 by unfold partR;simp[h1,h2]];simp only[vW,seval];refine z7 HK ?_;simp only[vW,seval,h1,h2]
def wantL(s:zB):zB:=if s=nLen∨s=nNum then [116] else if s=nLeft∨s=nRight∨s=nFrom then [116,110] else if s=nFind then [116,116] else if s=nText then [110] else if s=nMin∨s=nMax then [110,110] else []
theorem want6_ok(g:Sh.Glob)(s:zB):zC g 302 [S (str s)] [] (S (str (wantL s))) []:=by
 refine z10 tf_141 ?_;have q0:=bS [108,101,110];have q1:=bS [116,101,120,116];have q2:=bS [110,117,109];have q3:=bS [108,101,102,116];have q4:=bS [114,105,103,104,116];have q5:=bS [102,114,111,109];have q6:=bS [102,105,110,100];have q7:=bS [109,105,110];have q8:=bS [109,97,120];have q9:=bS [116];have q10:=bS [116,110];have q11:=bS [116,116];have q12:=bS [110];have q13:=bS [110,110];have q14:=bS [];have hb:∀t:zB,(s==t)=decide (s=t):=fun t=>by rw[Bool.eq_iff_iff];simp
 unfold wantL nLen nText nNum nLeft nRight nFrom nFind nMin nMax;simp only[vW,seval,q0,q1,q2,q3,q4,q5,q6,q7,q8,q9,q10,q11,q12,q13,q14,hb]
 repeat' (first|(apply And.intro)|(intro _))
 all_goals simp_all
def kindsL(w:zB):List Int:=w.map fun b=>if b=110 then 1 else 2
def koutL(s:zB):Int:=if s=nLeft∨s=nRight∨s=nFrom∨s=nText then 2 else 1
theorem call_kinds{s:zB}(h:0<takesV s)(hi:s≠nIf):callT s=takeT (koutL s) (kindsL (wantL s))∧((wantL s).length:Int)=takesV s∧(∀b∈wantL s,b=110∨b=116)∧0<(wantL s).length:=by
 rcases z148 h with rfl|rfl|rfl|rfl|rfl|rfl|rfl|rfl|rfl|rfl
 all_goals first|exact absurd rfl hi|exact⟨by funext ps;simp[callT,wantL,koutL,kindsL,nLen,nText,nNum,nLeft,nRight,nFrom,nFind,nMin,nMax,nIf],by decide,by decide,by decide⟩
def CallOk(g:Sh.Glob)(c:Cls)(e:V)(R:Ty×Bool):Prop:=∃t,zC g 270 [tv e,clT c] [] (.tuple [tyT t,B R.2]) []∧(R.2=true→t=R.1)
theorem refCallIf_ok(g:Sh.Glob)(c:Cls)(n:Int)(a b d:V)(T:V→Ty×Bool)(hz:∀y∈[a,b,d],(T y).2=true→((T y).1.k=1∨(T y).1.k=2)→(T y).1.o=0)
  (HP:∀y∈[a,b,d],zC g 269 [tv y,clT c] [] (I (partR (T y))) []):CallOk g c (.mk 6 n nIf [a,b,d]) (kidT6 T [a,b,d] z95):=by
 obtain⟨h1,h2⟩:=choose_three T a b d hz;have HA:=HP a (by simp);have HB:=HP b (by simp);have HD:=HP d (by simp);refine⟨⟨partR (T b),0⟩,?_,fun h=>(h2 h).symm⟩;have hR:(kidT6 T [a,b,d] z95).2=(decide (partR (T a)=1)&&(decide (0<partR (T b))&&decide (partR (T b)=partR (T d)))):=by rw[Bool.eq_iff_iff,h1];simp
 rw[hR];generalize partR (T a)=pa at*;generalize partR (T b)=pb at*;generalize partR (T d)=pd at*;have qi:(⟨#[105,102]⟩:ByteArray)=str nIf:=rfl;unfold clT tyT B at*;refine z10 tf_138 ?_;by_cases x1:pa=1<;>by_cases x2:0<pb<;>by_cases x3:pb=pd
 all_goals(
  simp only[vW,seval,qi];refine z8 HA ?_;refine z8 HB ?_;refine z7 HD ?_;simp only[vW,seval,x1,x2,x3];try(repeat' (first|(apply And.intro)|(intro _)))
  all_goals simp_all)
theorem refCall6_ok(g:Sh.Glob)(c:Cls)(e:V)(hs:0<takesV e.s)(hi:e.s≠nIf)(hl:(e.l.length:Int)=takesV e.s)(T:V→Ty×Bool)
  (HP:∀y∈e.l,zC g 269 [tv y,clT c] [] (I (partR (T y))) []):CallOk g c e (kidT6 T e.l (callT e.s)):=by
 obtain⟨k,n,s,l⟩:=e;simp only[Vs,Vl]at*;obtain⟨hk,hw,hb,hp⟩:=call_kinds hs hi;have ht3:=takes_3 s;rw[hk];have hlen:l.length=(kindsL (wantL s)).length:=by unfold kindsL;rw[List.length_map];omega
 have hks:∀i∈kindsL (wantL s),i=1∨i=2:=fun i hi=>by
  unfold kindsL at hi;obtain⟨b,_,rfl⟩:=List.mem_map.1 hi;split<;>omega
 obtain⟨h1,h2⟩:=take_all T (koutL s) l (kindsL (wantL s)) hlen hks;generalize kidT6 T l (takeT (koutL s) (kindsL (wantL s)))=R at*;have HW:=want6_ok g s;have hif:(s==nIf)=false:=by simpa using hi
 have qi:(⟨#[105,102]⟩:ByteArray)=str nIf:=rfl;have e0:=bS [];have hgood:∀(j:Nat) b,(wantL s)[j]?=some b→(kindsL (wantL s))[j]?=some (if b=110 then 1 else 2):=fun j b hj=>by unfold kindsL;rw[List.getElem?_map,hj];rfl
 have hko:koutL s=if s=nLeft∨s=nRight∨s=nFrom∨s=nText then 2 else 1:=rfl
 have hw0:(wantL s==[])=false:=by
  cases h:wantL s with
  |nil=>rw[h]at hp;simp at hp
  |cons b r=>rfl
 generalize wantL s=w at*;refine⟨if R.2=true then⟨koutL s,0⟩ else⟨0,0⟩,?_,fun h=>by rw[if_pos h,h2 h]⟩;have d9:¬(w.length:Int)=0:=by omega
 have dl:(w.length:Int)=(l.length:Int):=by omega
 unfold clT tyT B at*;refine z10 tf_138 ?_;simp only[vW,seval,qi,hif];refine z7 HW ?_;simp only[vW,seval,e0,hw0,dl];refine v_loop (σ:={i:Nat // i≤w.length∧∀(j:Nat) y b,j<i→l[j]?=some y→w[j]?=some b→partR (T y)=(if b=110 then 1 else 2)}) (fun i=>⟨[(2,.ptr 2 0),(3,.ptr 3 0),(4,.ptr 4 0),(9,S (str w)),(10,I (i.1:Int))],[(2,[I k,I n,S (str s),.pv (.sl 4 (V.rows l))]),(3,[S (str c.n),.pv (.sl 4 (flR c.fs))]),(4,[I 0,I 0])],[],[]⟩) (fun i=>w.length-i.1) ⟨0,Nat.zero_le _,fun j y b hj=>by omega⟩ ?_ ?_
 ·exact lwA
 rintro⟨i,hi,hno⟩;by_cases hlt:i<w.length
 ·have d1:(i:Int)<(w.length:Int):=by omega
  obtain⟨b,eb⟩:∃b,w[i]?=some b:=⟨_,gE hlt⟩
  obtain⟨y,ey⟩:∃y,l[i]?=some y:=⟨_,gE (by omega)⟩
  have HY:=HP y (gM ey);have w1:=wS i;by_cases hm:partR (T y)=(if b=110 then 1 else 2)
  ·have hno2:∀(j:Nat) y b,j<i+1→l[j]?=some y→w[j]?=some b→partR (T y)=(if b=110 then 1 else 2):=fun j z b' hj hz hb'=>by
    by_cases hji:j=i
    ·subst hji;rw[ey]at hz;rw[eb]at hb';cases hz;cases hb';exact hm
    ·exact hno j z b' (by omega) hz hb'
   rcases hb b (gM eb)with rfl|rfl
   ·rw[if_pos rfl]at hm;rw[hm]at HY;simp only[vW,seval,d1,ey];refine z7 HY ?_;simp only[vW,seval,eb,w1];refine z13 ⟨i+1,hlt,hno2⟩ (by show w.length-(i+1)<w.length-i;omega) ?_;exact lwA
   ·rw[if_neg (by decide)]at hm;rw[hm]at HY;simp only[vW,seval,d1,ey];refine z7 HY ?_;simp only[vW,seval,eb,w1];refine z13 ⟨i+1,hlt,hno2⟩ (by show w.length-(i+1)<w.length-i;omega) ?_;exact lwA
  ·have hf:R.2=false:=by
    cases hR:R.2 with
    |false=>rfl
    |true=>exact absurd (h1.1 hR i y _ ey (hgood i b eb)) hm
   rw[hf];rw[if_neg (by simp)];rcases hb b (gM eb)with rfl|rfl
   ·rw[if_pos rfl]at hm;simp only[vW,seval,d1,ey];refine z7 HY ?_;simp only[vW,seval,eb,w1,hm]
   ·rw[if_neg (by decide)]at hm;simp only[vW,seval,d1,ey];refine z7 HY ?_;simp only[vW,seval,eb,w1,hm]
 ·have d1:¬(i:Int)<(w.length:Int):=by omega
  have ht:R.2=true:=h1.2 fun j y i' hj hi'=>by
   have hjl:j<w.length:=by have:=(gJ hj).1;omega
   have hb':=gE hjl;rw[hgood j _ hb']at hi';cases hi';exact hno j y _ (by omega) hj hb'
  rw[ht];rw[if_pos rfl];have q1:(⟨#[108,101,102,116]⟩:ByteArray)=str nLeft:=rfl;have q2:(⟨#[114,105,103,104,116]⟩:ByteArray)=str nRight:=rfl;have q3:(⟨#[102,114,111,109]⟩:ByteArray)=str nFrom:=rfl;have q4:(⟨#[116,101,120,116]⟩:ByteArray)=str nText:=rfl;by_cases s1:s=nLeft
  ·have b1:(s==nLeft)=true:=by simpa using s1
   rw[show koutL s=2 by rw[hko,if_pos (.inl s1)]];simp only[vW,seval,d1,q1,q2,q3,q4,b1]
  have b1:(s==nLeft)=false:=by simpa using s1
  by_cases s2:s=nRight
  ·have b2:(s==nRight)=true:=by simpa using s2
   rw[show koutL s=2 by rw[hko,if_pos (.inr (.inl s2))]];simp only[vW,seval,d1,q1,q2,q3,q4,b1,b2]
  have b2:(s==nRight)=false:=by simpa using s2
  by_cases s3:s=nFrom
  ·have b3:(s==nFrom)=true:=by simpa using s3
   rw[show koutL s=2 by rw[hko,if_pos (.inr (.inr (.inl s3)))]];simp only[vW,seval,d1,q1,q2,q3,q4,b1,b2,b3]
  have b3:(s==nFrom)=false:=by simpa using s3
  by_cases s4:s=nText
  ·have b4:(s==nText)=true:=by simpa using s4
   rw[show koutL s=2 by rw[hko,if_pos (.inr (.inr (.inr s4)))]];simp only[vW,seval,d1,q1,q2,q3,q4,b1,b2,b3,b4]
  have b4:(s==nText)=false:=by simpa using s4
  rw[show koutL s=1 by rw[hko,if_neg (by simp[s1,s2,s3,s4])]];simp only[vW,seval,d1,q1,q2,q3,q4,b1,b2,b3,b4]
theorem binds_kinds{s:zB}(h:0<bindsV s):s=[38]∨(s=[43]∨s=[45]∨s=[42]∨s=[47]∨s=[37])∨(s=[61]∨s=[60,62]∨s=[60]∨s=[60,61]∨s=[62]∨s=[62,61]):=by
 unfold bindsV at h
 repeat' (split at h)
 all_goals first|(simp_all;done)|(rename_i h1;rcases h1 with h1|h1|h1|h1|h1|h1<;>simp[h1];done)|(rename_i h1;rcases h1 with h1|h1|h1<;>simp[h1];done)|(rename_i h1;rcases h1 with h1|h1<;>simp[h1];done)|omega
theorem two_iff{T:V→Int}{x y:V}{i:Int}:(∀(j:Nat) z k,[x,y][j]?=some z→[i,i][j]?=some k→T z=k) ↔ T x=i∧T y=i:=by
 refine⟨fun h=>⟨h 0 x i rfl rfl,h 1 y i rfl rfl⟩,fun h j z k hz hk=> ?_⟩
 match j with
 |0=>cases hz;cases hk;exact h.1
 |1=>cases hz;cases hk;exact h.2
 |j+2=>simp at hz
theorem sgB:((([61]:zB)==[38])=false)∧((([61]:zB)==[61])=true)∧((([60,62]:zB)==[38])=false)∧((([60,62]:zB)==[61])=false)∧((([60,62]:zB)==[60,62])=true)∧((([60]:zB)==[38])=false)∧((([60]:zB)==[61])=false)∧((([60]:zB)==[60,62])=false)∧((([60]:zB)==[60])=true)∧((([60,61]:zB)==[38])=false)∧((([60,61]:zB)==[61])=false)∧((([60,61]:zB)==[60,62])=false)∧((([60,61]:zB)==[60])=false)∧((([60,61]:zB)==[60,61])=true)∧((([62]:zB)==[38])=false)∧((([62]:zB)==[61])=false)∧((([62]:zB)==[60,62])=false)∧((([62]:zB)==[60])=false)∧((([62]:zB)==[60,61])=false)∧((([62]:zB)==[62])=true)∧((([62,61]:zB)==[38])=false)∧((([62,61]:zB)==[61])=false)∧((([62,61]:zB)==[60,62])=false)∧((([62,61]:zB)==[60])=false)∧((([62,61]:zB)==[60,61])=false)∧((([62,61]:zB)==[62])=false)∧((([62,61]:zB)==[62,61])=true):=by decide
def KindOk(g:Sh.Glob)(c:Cls)(d:Nat)(e:V):Prop:=∃t,zC g 231 [tv e,clT c] [] (.tuple [tyT t,B (typeV c.fs d e).2]) []∧((typeV c.fs d e).2=true→t=(typeV c.fs d e).1)
theorem kind6_step(g:Sh.Glob)(c:Cls)(hc:c.fs.length≤4611686018427387904)(hr:∀f∈c.fs,z16 f.t=true)(d:Nat)(IH:∀e,okE d e=true→KindOk g c d e):∀e,okE (d+1) e=true→KindOk g c (d+1) e:=by
  intro e he
  obtain⟨hn,hk⟩:=ok_kids he
  have HP:∀y∈e.l,zC g 269 [tv y,clT c] [] (I (partR (typeV c.fs d y))) []:=fun y hy=>by
    obtain⟨t,h1,h2⟩:=IH y (hk y hy)
    exact part6_ok g c y _ t h1 h2
  have hz:∀y∈e.l,(typeV c.fs d y).2=true→((typeV c.fs d y).1.k=1∨(typeV c.fs d y).1.k=2)→(typeV c.fs d y).1.o=0:=fun y hy=>typ_zero hr (hk y hy)
  unfold KindOk
  rw[typeV_node]
  obtain⟨k,n,s,l⟩:=e
  simp only[Vk,Vn,Vs,Vl]at*
  rcases z159 hn with rfl|rfl|rfl|rfl|rfl|rfl
  · obtain⟨_,_,hs,hl⟩:=node1 hn rfl
    simp only[Vs,Vl]at hs hl
    subst hs;subst hl
    refine⟨⟨1,0⟩,?_,fun _=>rfl⟩
    rw[show(kidT6 (typeV c.fs d) [] (nodeT c.fs (.mk 1 n [] []))).2=true from rfl]
    unfold clT tyT B
    refine z10 tf_139 ?_
    simp only[vW,seval]
  · obtain⟨_,_,hl⟩:=node2 hn rfl
    simp only[Vl]at hl
    subst hl
    refine⟨⟨2,0⟩,?_,fun _=>rfl⟩
    rw[show(kidT6 (typeV c.fs d) [] (nodeT c.fs (.mk 2 n s []))).2=true from rfl]
    unfold clT tyT B
    refine z10 tf_139 ?_
    simp only[vW,seval]
  · obtain⟨_,_,hl⟩:=node3 hn rfl
    simp only[Vl]at hl
    subst hl
    have HA:=refField_ok g c s hc
    have hR:kidT6 (typeV c.fs d) [] (nodeT c.fs (.mk 3 n s []))=if fieldAt c.fs s<0 then(ty0,false)else((c.fs.getD (fieldAt c.fs s).toNat ⟨[],ty0,false⟩).t,true):=rfl
    rw[hR]
    unfold fieldT at HA
    by_cases hf:fieldAt c.fs s<0
    · rw[if_pos hf]at HA ⊢
      refine⟨⟨0,0⟩,?_,fun h=>by cases h⟩
      unfold clT tyT B at*
      refine z43 tf_139 ?_
      exact z14 HA
    · rw[if_neg hf]at HA ⊢
      obtain⟨q,hq⟩:∃q:Nat,fieldAt c.fs s=q:=⟨(fieldAt c.fs s).toNat,by omega⟩
      obtain⟨f,hf1,_⟩:=z135 _ _ q hq
      rw[hq]at HA
      refine⟨f.t,?_,fun _=>by rw[hq,Int.toNat_natCast,getD_at hf1]⟩
      unfold clT tyT B at*
      refine z43 tf_139 ?_
      refine z7 HA ?_
      simp only[vW,seval,clV,hf1]
  · obtain⟨_,hb,x,y,hl⟩:=node4 hn rfl
    simp only[Vs,Vl]at hb hl
    subst hl
    have HX:=HP x (by simp)
    have HY:=HP y (by simp)
    have q0:=bS [38]
    have q1:=bS [61]
    have q2:=bS [60,62]
    have q3:=bS [60]
    have q4:=bS [60,61]
    have q5:=bS [62]
    have q6:=bS [62,61]
    rcases binds_kinds hb with hs|hs|hs
    · obtain⟨h1,h2⟩:=take_all (typeV c.fs d) 2 [x,y] [2,2] rfl (by simp)
      rw[show kidT6 (typeV c.fs d) [x,y] (nodeT c.fs (.mk 4 n s [x,y]))=kidT6 (typeV c.fs d) [x,y] (takeT 2 [2,2]) by subst hs;rfl]
      refine⟨⟨2,0⟩,?_,fun h=>(h2 h).symm⟩
      have hR:(kidT6 (typeV c.fs d) [x,y] (takeT 2 [2,2])).2=(decide (partR (typeV c.fs d x)=2)&&decide (partR (typeV c.fs d y)=2)):=by
        rw[Bool.eq_iff_iff,h1]
        simp only[Bool.and_eq_true,decide_eq_true_eq]
        exact two_iff (T:=fun z=>partR (typeV c.fs d z))
      rw[hR]
      generalize partR (typeV c.fs d x)=px at*
      generalize partR (typeV c.fs d y)=py at*
      subst hs
      unfold clT tyT B at*
      refine z43 tf_139 ?_
      refine z8 HX ?_
      refine z7 HY ?_
      simp only[vW,seval,q0,q1,q2,q3,q4,q5,q6]
      try(repeat' (first|(apply And.intro)|(intro _)))
      all_goals simp_all
    · obtain⟨h1,h2⟩:=take_all (typeV c.fs d) 1 [x,y] [1,1] rfl (by simp)
      rw[show kidT6 (typeV c.fs d) [x,y] (nodeT c.fs (.mk 4 n s [x,y]))=kidT6 (typeV c.fs d) [x,y] (takeT 1 [1,1]) by rcases hs with rfl|rfl|rfl|rfl|rfl<;>rfl]
      refine⟨⟨1,0⟩,?_,fun h=>(h2 h).symm⟩
      have hR:(kidT6 (typeV c.fs d) [x,y] (takeT 1 [1,1])).2=(decide (partR (typeV c.fs d x)=1)&&decide (partR (typeV c.fs d y)=1)):=by
        rw[Bool.eq_iff_iff,h1]
        simp only[Bool.and_eq_true,decide_eq_true_eq]
        exact two_iff (T:=fun z=>partR (typeV c.fs d z))
      rw[hR]
      generalize partR (typeV c.fs d x)=px at*
      generalize partR (typeV c.fs d y)=py at*
      unfold clT tyT B at*
      refine z10 tf_139 ?_
      rcases hs with rfl|rfl|rfl|rfl|rfl
      all_goals(
        simp only[vW,seval]
        refine z8 HX ?_
        refine z7 HY ?_
        simp only[vW,seval,q0,q1,q2,q3,q4,q5,q6]
        try(repeat' (first|(apply And.intro)|(intro _)))
        all_goals simp_all)
    · obtain⟨h1,h2⟩:=alike_two (typeV c.fs d) x y hz (nodeT c.fs (.mk 4 n s [x,y])) (fun p q=>by rcases hs with rfl|rfl|rfl|rfl|rfl|rfl<;>rfl)
      refine⟨⟨1,0⟩,?_,fun h=>(h2 h).symm⟩
      have hR:(kidT6 (typeV c.fs d) [x,y] (nodeT c.fs (.mk 4 n s [x,y]))).2=(decide (0<partR (typeV c.fs d x))&&decide (partR (typeV c.fs d x)=partR (typeV c.fs d y))):=by rw[Bool.eq_iff_iff,h1];simp
      rw[hR]
      generalize partR (typeV c.fs d x)=px at*
      generalize partR (typeV c.fs d y)=py at*
      unfold clT tyT B at*
      refine z10 tf_139 ?_
      by_cases a1:0<px
      · by_cases a2:px=py
        · subst a2
          rcases hs with rfl|rfl|rfl|rfl|rfl|rfl
          all_goals(
            simp only[vW,seval]
            refine z8 HX ?_
            refine z7 HY ?_
            simp only[vW,seval,q0,q1,q2,q3,q4,q5,q6,a1,sgB]
            try rfl)
        · rcases hs with rfl|rfl|rfl|rfl|rfl|rfl
          all_goals(
            simp only[vW,seval]
            refine z8 HX ?_
            refine z7 HY ?_
            simp only[vW,seval,q0,q1,q2,q3,q4,q5,q6,a1,a2,sgB]
            try rfl)
      · rcases hs with rfl|rfl|rfl|rfl|rfl|rfl
        all_goals(
          simp only[vW,seval]
          refine z8 HX ?_
          refine z7 HY ?_
          simp only[vW,seval,q0,q1,q2,q3,q4,q5,q6,a1,sgB]
          try rfl)
  · obtain⟨_,hs,x,hl⟩:=node5 hn rfl
    simp only[Vs,Vl]at hs hl
    subst hs;subst hl
    have HX:=HP x (by simp)
    obtain⟨h1,h2⟩:=take_all (typeV c.fs d) 1 [x] [1] rfl (by simp)
    refine⟨⟨1,0⟩,?_,fun h=>(h2 h).symm⟩
    have hR:(kidT6 (typeV c.fs d) [x] (nodeT c.fs (.mk 5 n [45] [x]))).2=decide (partR (typeV c.fs d x)=1):=by
      rw[Bool.eq_iff_iff,decide_eq_true_eq]
      refine Iff.trans h1 ⟨fun h=>h 0 x 1 rfl rfl,fun h j z i hz hi=> ?_⟩
      cases j with
      |zero=>cases hz;cases hi;exact h
      |succ j=>simp at hz
    rw[hR]
    generalize partR (typeV c.fs d x)=px at*
    unfold clT tyT B at*
    refine z43 tf_139 ?_
    exact z14 HX
  · obtain⟨_,hs,hl⟩:=node6 hn rfl
    simp only[Vs,Vl]at hs hl
    have HC:CallOk g c (.mk 6 n s l) (kidT6 (typeV c.fs d) l (callT s)):=by
      by_cases hi:s=nIf
      · subst hi
        have h3 : l.length = 3 := by have : takesV nIf = 3 := by decide
                                     omega
        obtain⟨a,b,e,rfl⟩:∃a b e,l=[a,b,e]:=by
          match l,h3 with
          |[a,b,e],_=>exact⟨a,b,e,rfl⟩
        exact refCallIf_ok g c n a b e (typeV c.fs d) hz HP
      · exact refCall6_ok g c (.mk 6 n s l) hs hi hl (typeV c.fs d) HP
    obtain⟨t,h1,h2⟩:=HC
    refine⟨t,?_,h2⟩
    rw[show(kidT6 (typeV c.fs d) l (nodeT c.fs (.mk 6 n s l)))=kidT6 (typeV c.fs d) l (callT s) from rfl]
    generalize kidT6 (typeV c.fs d) l (callT s)=R at*
    unfold clT tyT B at*
    refine z43 tf_139 ?_
    exact z14 h1
theorem kind6_ok(g:Sh.Glob)(c:Cls)(hc:c.fs.length≤4611686018427387904)(hr:∀f∈c.fs,z16 f.t=true):∀(d:Nat) (e:V),okE d e=true→KindOk g c d e
 |0,e,h=>by simp[okE]at h
 |d+1,e,h=>kind6_step g c hc hr d (kind6_ok g c hc hr d) e h
theorem refType6_ok(g:Sh.Glob)(c:Cls)(e:V)(hc:ClsOk c)(he:ESmall e):zC g 175 [tv e,clT c] [] (.tuple [tyT (typeA c e).1,I (typeA c e).2]) []:=by
 have HE:=refRightE_ok g e he;have HC:=refRight4_ok g c hc;obtain⟨R,hR⟩:∃R,typeA c e=R:=⟨_,rfl⟩
 rw[hR];unfold typeA at hR;refine z10 tf_137 ?_;unfold clT tyT B at*;cases h1:rightE e
 ·rw[h1]at hR HE;simp only[Bool.false_eq_true,if_false]at hR;subst hR;simp only[vW,seval];refine z8 HE ?_;rfl
 rw[h1]at hR HE;cases h2:z19 c
 ·rw[h2]at hR HC;simp only[Bool.false_eq_true,if_false,if_true]at hR;subst hR;simp only[vW,seval];refine z8 HE ?_;refine z8 HC ?_;rfl
 rw[h2]at hR HC;have hr:=(z99 c).1 h2;have hd:okE 8 e=true:=by unfold rightE at h1;simp only[Bool.and_eq_true]at h1;exact h1.1
 obtain⟨t,HK,ht⟩:=kind6_ok g c hc.len (fun f hf=>by have:=hr.2.2.1 f hf;unfold z26 at this;simp only[Bool.and_eq_true]at this;exact this.1.2) 8 e hd;unfold clT tyT B at HK;simp only[if_true]at hR;cases h3:(typeV c.fs 8 e).2
 ·rw[h3]at hR HK;simp only[Bool.false_eq_true,if_false]at hR;subst hR;simp only[vW,seval];refine z8 HE ?_;refine z8 HC ?_;refine z8 HK ?_;rfl
 ·rw[h3]at hR HK;simp only[if_true]at hR;obtain rfl:=ht h3;subst hR;simp only[vW,seval];refine z8 HE ?_;refine z8 HC ?_;exact z14 HK
theorem lexG_ok:∀(f:Nat) (l:zB) (a:Nat) (acc L:List Pc),(∀q∈acc,PcOk q)→lexG f l a acc=some (.ok L)→∀q∈L,PcOk q:=by
 intro f
 induction f with
 |zero=>intro l a acc L _ h;cases h
 |succ f ih=>
  intro l a acc L ha h;cases l with
  |nil=>rw[lexG]at h;cases h;exact ha
  |cons b r=>
   rw[lexG]at h;split at h
   ·exact ih _ _ _ _ ha h
   ·split at h
    ·cases h
    ·rename_i q z hr;refine ih _ _ _ _ (fun y hy=> ?_) h;rcases List.mem_append.1 hy with hy|hy
     ·exact ha y hy
     ·obtain rfl:=List.mem_singleton.1 hy;exact readP_ok hr
theorem refParse_ok(g:Sh.Glob)(s:zB){f:Nat}{r:V×Int×Int}(h:parseV f s=some r):
  (r.2.2=0→zC g 174 [S (str s)] [] (.tuple [tv r.1,I 0,I 0]) [])∧(r.2.2≠0→∃a c,c≠0∧zC g 174 [S (str s)] [] (errQ a c) []):=by
 unfold parseV at h;by_cases hl:200<s.length
 ·rw[if_pos hl]at h;cases h;refine⟨fun h=>by simp at h,fun _=>⟨200,50,by decide,?_⟩⟩;have d1:(200:Int)<(s.length:Int):=by omega
  have e0:=bS [];refine z10 tf_129 ?_;unfold errQ zeroE;simp only[vW,seval,d1]
 rw[if_neg hl]at h;cases hX:lexG (s.length+1) s 0 []with
 |none=>rw[hX]at h;cases h
 |some X=>
  rw[hX]at h;cases X with
  |bad a=>
   cases h;exact⟨fun h=>by simp at h,fun _=>⟨a,50,by decide,z190 g s (by omega) _ _ hX _ (fun a' h'=>by cases h';rfl) (fun L h'=>by cases h')⟩⟩
  |ok L=>
   dsimp only at h
   have hL:=lexG_ok _ _ _ _ _ (by simp) hX;have hsm:=(parse_small (z140 _ _ _ _ _ (by simp) hX).1 s.length f).1;cases hp:pE L s.length f 1 0 with
   |none=>rw[hp]at h;cases h
   |some rs=>
    rw[hp]at h;have hag:=(agree_all (sz:=s.length) hL f).1 1 0 rs hp;cases rs with
    |bad a p=>
     cases h;obtain⟨e,q,b,hb,hm⟩:=hag;refine⟨fun h=>by simp at h,fun _=>⟨b,50,by decide,z190 g s (by omega) _ _ hX _ (fun a' h'=>by cases h') (fun L' h'=> ?_)⟩⟩;cases h';exact⟨e,q,b,f+3,hm,fun h=>by omega,by unfold endQ;rw[if_pos hb]⟩
    |ok e p=>
     have hm:mE L s.length (f+3) 1 0 (-1)=some (e,p, -1):=hag;have he:=hsm _ _ _ _ hp
     dsimp only at h
     have run:zC g 174 [S (str s)] [] (endQ L s.length e p (-1)) []:=z190 g s (by omega) _ _ hX _ (fun a' h'=>by cases h') (fun L' h'=>by
      cases h';exact⟨e,p, -1,f+3,hm,fun _=>he,rfl⟩)
     unfold endQ at run;rw[if_neg (by omega)]at run;by_cases hlt:p<L.length
     ·rw[if_pos hlt]at h run;cases h;exact⟨fun h=>by simp at h,fun _=>⟨_,50,by decide,run⟩⟩
     ·rw[if_neg hlt]at h run;by_cases hr:rightE e=true
      ·rw[if_pos hr]at h run;cases h;exact⟨fun _=>run,fun h=>absurd rfl h⟩
      ·rw[if_neg hr]at h run;cases h;exact⟨fun h=>by simp at h,fun _=>⟨0,51,by decide,run⟩⟩
def RTx(s:zB):Prop:=(∃r,parseV 1000 s=some r)∧(s≠[]→ESmall (rdV s).1)
theorem refParses_ok(g:Sh.Glob)(s:zB)(h:RTx s):zC g 173 [S (str s)] [] (B (s==[]||decide ((rdV s).2.2=0))) []:=by
 obtain⟨⟨r,hr⟩,_⟩:=h;have hrd:rdV s=r:=by unfold rdV;rw[hr];rfl
 rw[hrd];obtain⟨h1,h2⟩:=refParse_ok g s hr;have e0:=bS [];refine z10 tf_146 ?_;unfold B;by_cases hz:r.2.2=0
 ·have HP:=h1 hz;cases hs:(s==[])
  ·simp only[vW,seval];refine z7 HP ?_;simp only[vW,seval,e0,hs,hz];try rfl
  ·simp only[vW,seval];refine z7 HP ?_;simp only[vW,seval,e0,hs,hz];try rfl
 ·obtain⟨a,c,hc,HP⟩:=h2 hz;unfold errQ zeroE at HP;cases hs:(s==[])
  ·simp only[vW,seval];refine z7 HP ?_;simp only[vW,seval,e0,hs,hz,hc];try rfl
  ·simp only[vW,seval];refine z7 HP ?_;simp only[vW,seval,e0,hs,hz,hc];try rfl
theorem typeA_nil(c:Cls):typeA c V.nil=(ty0,50):=rfl
theorem refTells_ok(g:Sh.Glob)(s:zB)(c:Cls)(t:Ty)(h:RTx s)(hc:ClsOk c):zC g 114 [S (str s),clT c,tyT t] [] (B (tellV c s t).is) []:=by
 obtain⟨⟨r,hr⟩,hsm⟩:=h;have hrd:rdV s=r:=by unfold rdV;rw[hr];rfl
 obtain⟨h1,h2⟩:=refParse_ok g s hr;have e0:=bS [];unfold B;by_cases hs:s=[]
 ·subst hs;refine z10 tf_147 ?_;unfold clT tyT;simp only[vW,seval,e0];try rfl
 have hs':(s==[])=false:=by simpa using hs
 unfold tellV;rw[if_neg hs,hrd];rw[hrd]at hsm;by_cases hz:r.2.2=0
 ·rw[if_neg (by simpa using hz)];have HP:=h1 hz;have HT:=refType6_ok g c r.1 hc (hsm hs);generalize typeA c r.1=w at*;obtain⟨⟨k,o⟩,z⟩:=w;obtain⟨tk,ot⟩:=t;unfold clT tyT at*
  dsimp only at HT ⊢
  by_cases z0:z=0
  ·cases he:eqTy ⟨k,o⟩ ⟨tk,ot⟩
   ·rw[if_neg (by simp)];refine z10 tf_147 ?_;simp only[vW,seval,e0,hs'];refine z8 HP ?_;refine z7 HT ?_;simp only[vW,seval,z0,eqlTy,he];try rfl
   ·rw[if_pos ⟨z0,rfl⟩];refine z10 tf_147 ?_;simp only[vW,seval,e0,hs'];refine z8 HP ?_;refine z7 HT ?_;simp only[vW,seval,z0,eqlTy,he];try rfl
  ·rw[if_neg (fun h=>z0 h.1)];refine z10 tf_147 ?_;simp only[vW,seval,e0,hs'];refine z8 HP ?_;refine z7 HT ?_;simp only[vW,seval,z0];try rfl
 ·rw[if_pos hz];obtain⟨a,q,hq,HP⟩:=h2 hz;have HT:=(refType6_ok g c V.nil hc esm_nil).inp (xs:=[nv V.nil,clT c]) rfl (fun j x y hx hy=>by
   match j with
   |0=>simp at hx hy;subst hx;subst hy;exact nv_tv rfl
   |1=>simp at hx hy;subst hx;subst hy;exact .refl _
   |j+2=>simp at hx)
  rw[typeA_nil]at HT;unfold errQ zeroE at HP;unfold nv clT tyT at*;refine z10 tf_147 ?_;simp only[vW,seval,e0,hs'];refine z7 HP ?_;simp only[vW,seval,e0];refine z8 HT ?_;try trivial
theorem neqChg(k k':Int)(f n m f' n' m':ByteArray)(t o t' o':Int)(x y x' y':ByteArray):
  scal Tryz.prog (do eqGuard .neq 50 (.const (.agg #[.int .i64 k,.string f,.string n,.string m,.int .i64 t,.int .i64 o,.string x,.string y])) (.const (.agg #[.int .i64 k',.string f',.string n',.string m',.int .i64 t',.int .i64 o',.string x',.string y'])) (.agg #[.int .i64 k,.string f,.string n,.string m,.int .i64 t,.int .i64 o,.string x,.string y]) (.agg #[.int .i64 k',.string f',.string n',.string m',.int .i64 t',.int .i64 o',.string x',.string y']);binOp .neq 50 (.agg #[.int .i64 k,.string f,.string n,.string m,.int .i64 t,.int .i64 o,.string x,.string y]) (.agg #[.int .i64 k',.string f',.string n',.string m',.int .i64 t',.int .i64 o',.string x',.string y']))=
  some (.pv (.v (.bool (!((k==k')&&((f==f')&&((n==n')&&((m==m')&&(eqTy ⟨t,o⟩ ⟨t',o'⟩&&((x==x')&&((y==y')&&true)))))))))),.no):=by
 unfold scal;rw[z31];have hg:z23 Tryz.prog (eqGuard .neq 50 (.const (.agg #[.int .i64 k,.string f,.string n,.string m,.int .i64 t,.int .i64 o,.string x,.string y])) (.const (.agg #[.int .i64 k',.string f',.string n',.string m',.int .i64 t',.int .i64 o',.string x',.string y'])) (.agg #[.int .i64 k,.string f,.string n,.string m,.int .i64 t,.int .i64 o,.string x,.string y]) (.agg #[.int .i64 k',.string f',.string n',.string m',.int .i64 t',.int .i64 o',.string x',.string y']))=some ():=by kernel_rfl
 rw[hg,Option.bind_some];have hb:binOp .neq 50 (.agg #[.int .i64 k,.string f,.string n,.string m,.int .i64 t,.int .i64 o,.string x,.string y]) (.agg #[.int .i64 k',.string f',.string n',.string m',.int .i64 t',.int .i64 o',.string x',.string y'])=(Op.equal 50 (.agg (chA k f n m t o x y)) (.agg (chA k' f' n' m' t' o' x' y'))>>=fun r=>pure (.bool (!r))):=rfl;rw[hb,z31,eqChgR];rfl
def needC(h:Chg):Chg:=if h.k=1 then⟨1,[],h.n,[],h.t,h.x,[]⟩ else if h.k=3 then⟨3,h.f,h.n,[],ty0,[],[]⟩ else if h.k=4 then⟨4,h.f,[],[],h.t,h.x,[]⟩ else if h.k=5 then h else⟨h.k,h.f,[],[],ty0,[],[]⟩
theorem refNeeds_ok(g:Sh.Glob)(h:Chg)(hk:1≤h.k∧h.k≤6):zC g 172 [chT h] [] (chT (needC h)) []:=by
 obtain⟨k,f,n,m,⟨tk,ot⟩,x,o⟩:=h
 dsimp only at hk
 have e0:=bS [];have hk:k=1∨k=2∨k=3∨k=4∨k=5∨k=6:=by omega
 refine z10 tf_145 ?_;rcases hk with rfl|rfl|rfl|rfl|rfl|rfl
 all_goals(
  unfold chT;simp only[vW,seval,e0];try rfl)
def psB(s:zB):Bool:=s==[]||decide ((rdV s).2.2=0)
theorem refFormed_ok(g:Sh.Glob)(h:Chg)(hf:Short h.f)(hn:Short h.n)(hm:Short h.m)(hx:RTx h.x)(ho:RTx h.o):zC g 113 [chT h] [] (B (wellV h)) []:=by
 have HX:=refParses_ok g h.x hx;have HO:=refParses_ok g h.o ho;have HF:=refName_ok g h.f hf;have HN:=refName_ok g h.n hn;have HM:=refName_ok g h.m hm;have HT:=refRT_ok g h.t;change SCalls _ _ _ _ _ (B (psB h.x)) _ at HX;change SCalls _ _ _ _ _ (B (psB h.o)) _ at HO;by_cases hk:1≤h.k∧h.k≤6
 ·have HC:=refNeeds_ok g h hk;have HS:(_:Option (TV×Upd))=_:=neqChg h.k (needC h).k (str h.f) (str h.n) (str h.m) (str (needC h).f) (str (needC h).n) (str (needC h).m) h.t.k h.t.o (needC h).t.k (needC h).t.o (str h.x) (str h.o) (str (needC h).x) (str (needC h).o);simp only[strB3]at HS;have hsm:((h.k==(needC h).k)&&((h.f==(needC h).f)&&((h.n==(needC h).n)&&((h.m==(needC h).m)&&(eqTy ⟨h.t.k,h.t.o⟩ ⟨(needC h).t.k,(needC h).t.o⟩&&((h.x==(needC h).x)&&((h.o==(needC h).o)&&true)))))))=z47 h (needC h):=rfl;rw[hsm]at HS;obtain⟨k,f,n,m,⟨tk,ot⟩,x,o⟩:=h
  dsimp only at*
  have hk':k=1∨k=2∨k=3∨k=4∨k=5∨k=6:=by omega
  clear hk;rcases hk' with rfl|rfl|rfl|rfl|rfl|rfl
  ·have hw:wellV ⟨1,f,n,m,⟨tk,ot⟩,x,o⟩=(z47 (⟨1,f,n,m,⟨tk,ot⟩,x,o⟩:Chg) (needC (⟨1,f,n,m,⟨tk,ot⟩,x,o⟩:Chg))&&(z11 n&&(z16 ⟨tk,ot⟩&&(psB x&&(psB o))))):=by
    rw[Bool.eq_iff_iff];simp only[wellV,needV,nameV,formV,z47,needC,psB,eqTy,ty0,Bool.and_eq_true,Bool.or_eq_true,beq_iff_eq,decide_eq_true_eq,if_true,if_false,Bool.false_eq_true,true_and,and_true,show((1:Int)=1)=True from by simp,show((1:Int)=2)=False from by simp,show((1:Int)=6)=False from by simp,show((1:Int)=3)=False from by simp,show((1:Int)=4)=False from by simp,show((1:Int)=5)=False from by simp,false_or,or_false,true_or,or_true];constructor
    ·intro h;simp_all
    ·intro h;simp_all
   rw[hw];clear hw;generalize z47 (⟨1,f,n,m,⟨tk,ot⟩,x,o⟩:Chg) (needC ⟨1,f,n,m,⟨tk,ot⟩,x,o⟩)=sb at*;simp only[needC,ty0,chT,if_true,if_false,show((1:Int)=1)=True from by simp,show((1:Int)=3)=False from by simp,show((1:Int)=4)=False from by simp,show((1:Int)=5)=False from by simp]at HC HS;generalize z11 f=bf at*;generalize z11 n=bn at*;generalize z16 ⟨tk,ot⟩=bt at*;generalize z11 m=bm at*;generalize psB x=px at*;generalize psB o=po at*;refine z10 tf_142 ?_;unfold chT B tyT at*;simp only[vW,seval];refine z7 HC ?_;simp only[vW,seval,HS];cases sb
   ·simp only[vW,seval];try rfl
   simp only[vW,seval];refine z7 HN ?_;cases bn
   ·simp only[vW,seval];try rfl
   simp only[vW,seval];refine z7 HT ?_;cases bt
   ·simp only[vW,seval];try rfl
   simp only[vW,seval];refine z7 HX ?_;cases px
   ·simp only[vW,seval];try rfl
   simp only[vW,seval];refine z7 HO ?_;cases po
   ·simp only[vW,seval];try rfl
   simp only[vW,seval];try rfl
  ·have hw:wellV ⟨2,f,n,m,⟨tk,ot⟩,x,o⟩=(z47 (⟨2,f,n,m,⟨tk,ot⟩,x,o⟩:Chg) (needC (⟨2,f,n,m,⟨tk,ot⟩,x,o⟩:Chg))&&(z11 f&&(psB x&&(psB o)))):=by
    rw[Bool.eq_iff_iff];simp only[wellV,needV,nameV,formV,z47,needC,psB,eqTy,ty0,Bool.and_eq_true,Bool.or_eq_true,beq_iff_eq,decide_eq_true_eq,if_true,if_false,Bool.false_eq_true,true_and,and_true,show((2:Int)=1)=False from by simp,show((2:Int)=2)=True from by simp,show((2:Int)=6)=False from by simp,show((2:Int)=3)=False from by simp,show((2:Int)=4)=False from by simp,show((2:Int)=5)=False from by simp,false_or,or_false,true_or,or_true];constructor
    ·intro h;simp_all
    ·intro h;simp_all
   rw[hw];clear hw;generalize z47 (⟨2,f,n,m,⟨tk,ot⟩,x,o⟩:Chg) (needC ⟨2,f,n,m,⟨tk,ot⟩,x,o⟩)=sb at*;simp only[needC,ty0,chT,if_true,if_false,show((2:Int)=1)=False from by simp,show((2:Int)=3)=False from by simp,show((2:Int)=4)=False from by simp,show((2:Int)=5)=False from by simp]at HC HS;generalize z11 f=bf at*;generalize z11 n=bn at*;generalize z16 ⟨tk,ot⟩=bt at*;generalize z11 m=bm at*;generalize psB x=px at*;generalize psB o=po at*;refine z10 tf_142 ?_;unfold chT B tyT at*;simp only[vW,seval];refine z7 HC ?_;simp only[vW,seval,HS];cases sb
   ·simp only[vW,seval];try rfl
   simp only[vW,seval];refine z7 HF ?_;cases bf
   ·simp only[vW,seval];try rfl
   simp only[vW,seval];refine z7 HX ?_;cases px
   ·simp only[vW,seval];try rfl
   simp only[vW,seval];refine z7 HO ?_;cases po
   ·simp only[vW,seval];try rfl
   simp only[vW,seval];try rfl
  ·have hw:wellV ⟨3,f,n,m,⟨tk,ot⟩,x,o⟩=(z47 (⟨3,f,n,m,⟨tk,ot⟩,x,o⟩:Chg) (needC (⟨3,f,n,m,⟨tk,ot⟩,x,o⟩:Chg))&&(z11 f&&(z11 n&&(psB x&&(psB o))))):=by
    rw[Bool.eq_iff_iff];simp only[wellV,needV,nameV,formV,z47,needC,psB,eqTy,ty0,Bool.and_eq_true,Bool.or_eq_true,beq_iff_eq,decide_eq_true_eq,if_true,if_false,Bool.false_eq_true,true_and,and_true,show((3:Int)=1)=False from by simp,show((3:Int)=2)=False from by simp,show((3:Int)=6)=False from by simp,show((3:Int)=3)=True from by simp,show((3:Int)=4)=False from by simp,show((3:Int)=5)=False from by simp,false_or,or_false,true_or,or_true];constructor
    ·intro h;simp_all
    ·intro h;simp_all
   rw[hw];clear hw;generalize z47 (⟨3,f,n,m,⟨tk,ot⟩,x,o⟩:Chg) (needC ⟨3,f,n,m,⟨tk,ot⟩,x,o⟩)=sb at*;simp only[needC,ty0,chT,if_true,if_false,show((3:Int)=1)=False from by simp,show((3:Int)=3)=True from by simp,show((3:Int)=4)=False from by simp,show((3:Int)=5)=False from by simp]at HC HS;generalize z11 f=bf at*;generalize z11 n=bn at*;generalize z16 ⟨tk,ot⟩=bt at*;generalize z11 m=bm at*;generalize psB x=px at*;generalize psB o=po at*;refine z10 tf_142 ?_;unfold chT B tyT at*;simp only[vW,seval];refine z7 HC ?_;simp only[vW,seval,HS];cases sb
   ·simp only[vW,seval];try rfl
   simp only[vW,seval];refine z7 HF ?_;cases bf
   ·simp only[vW,seval];try rfl
   simp only[vW,seval];refine z7 HN ?_;cases bn
   ·simp only[vW,seval];try rfl
   simp only[vW,seval];refine z7 HX ?_;cases px
   ·simp only[vW,seval];try rfl
   simp only[vW,seval];refine z7 HO ?_;cases po
   ·simp only[vW,seval];try rfl
   simp only[vW,seval];try rfl
  ·have hw:wellV ⟨4,f,n,m,⟨tk,ot⟩,x,o⟩=(z47 (⟨4,f,n,m,⟨tk,ot⟩,x,o⟩:Chg) (needC (⟨4,f,n,m,⟨tk,ot⟩,x,o⟩:Chg))&&(z11 f&&(z16 ⟨tk,ot⟩&&(psB x&&(psB o))))):=by
    rw[Bool.eq_iff_iff];simp only[wellV,needV,nameV,formV,z47,needC,psB,eqTy,ty0,Bool.and_eq_true,Bool.or_eq_true,beq_iff_eq,decide_eq_true_eq,if_true,if_false,Bool.false_eq_true,true_and,and_true,show((4:Int)=1)=False from by simp,show((4:Int)=2)=False from by simp,show((4:Int)=6)=False from by simp,show((4:Int)=3)=False from by simp,show((4:Int)=4)=True from by simp,show((4:Int)=5)=False from by simp,false_or,or_false,true_or,or_true];constructor
    ·intro h;simp_all
    ·intro h;simp_all
   rw[hw];clear hw;generalize z47 (⟨4,f,n,m,⟨tk,ot⟩,x,o⟩:Chg) (needC ⟨4,f,n,m,⟨tk,ot⟩,x,o⟩)=sb at*;simp only[needC,ty0,chT,if_true,if_false,show((4:Int)=1)=False from by simp,show((4:Int)=3)=False from by simp,show((4:Int)=4)=True from by simp,show((4:Int)=5)=False from by simp]at HC HS;generalize z11 f=bf at*;generalize z11 n=bn at*;generalize z16 ⟨tk,ot⟩=bt at*;generalize z11 m=bm at*;generalize psB x=px at*;generalize psB o=po at*;refine z10 tf_142 ?_;unfold chT B tyT at*;simp only[vW,seval];refine z7 HC ?_;simp only[vW,seval,HS];cases sb
   ·simp only[vW,seval];try rfl
   simp only[vW,seval];refine z7 HF ?_;cases bf
   ·simp only[vW,seval];try rfl
   simp only[vW,seval];refine z7 HT ?_;cases bt
   ·simp only[vW,seval];try rfl
   simp only[vW,seval];refine z7 HX ?_;cases px
   ·simp only[vW,seval];try rfl
   simp only[vW,seval];refine z7 HO ?_;cases po
   ·simp only[vW,seval];try rfl
   simp only[vW,seval];try rfl
  ·have hw:wellV ⟨5,f,n,m,⟨tk,ot⟩,x,o⟩=(z47 (⟨5,f,n,m,⟨tk,ot⟩,x,o⟩:Chg) (needC (⟨5,f,n,m,⟨tk,ot⟩,x,o⟩:Chg))&&(z11 f&&(z11 n&&(z16 ⟨tk,ot⟩&&(z11 m&&(psB x&&(psB o))))))):=by
    rw[Bool.eq_iff_iff];simp only[wellV,needV,nameV,formV,z47,needC,psB,eqTy,ty0,Bool.and_eq_true,Bool.or_eq_true,beq_iff_eq,decide_eq_true_eq,if_true,if_false,Bool.false_eq_true,true_and,and_true,show((5:Int)=1)=False from by simp,show((5:Int)=2)=False from by simp,show((5:Int)=6)=False from by simp,show((5:Int)=3)=False from by simp,show((5:Int)=4)=False from by simp,show((5:Int)=5)=True from by simp,false_or,or_false,true_or,or_true];constructor
    ·intro h;simp_all
    ·intro h;simp_all
   rw[hw];clear hw;generalize z47 (⟨5,f,n,m,⟨tk,ot⟩,x,o⟩:Chg) (needC ⟨5,f,n,m,⟨tk,ot⟩,x,o⟩)=sb at*;simp only[needC,ty0,chT,if_true,if_false,show((5:Int)=1)=False from by simp,show((5:Int)=3)=False from by simp,show((5:Int)=4)=False from by simp,show((5:Int)=5)=True from by simp]at HC HS;generalize z11 f=bf at*;generalize z11 n=bn at*;generalize z16 ⟨tk,ot⟩=bt at*;generalize z11 m=bm at*;generalize psB x=px at*;generalize psB o=po at*;refine z10 tf_142 ?_;unfold chT B tyT at*;simp only[vW,seval];refine z7 HC ?_;simp only[vW,seval,HS];cases sb
   ·simp only[vW,seval];try rfl
   simp only[vW,seval];refine z7 HF ?_;cases bf
   ·simp only[vW,seval];try rfl
   simp only[vW,seval];refine z7 HN ?_;cases bn
   ·simp only[vW,seval];try rfl
   simp only[vW,seval];refine z7 HT ?_;cases bt
   ·simp only[vW,seval];try rfl
   simp only[vW,seval];refine z7 HM ?_;cases bm
   ·simp only[vW,seval];try rfl
   simp only[vW,seval];refine z7 HX ?_;cases px
   ·simp only[vW,seval];try rfl
   simp only[vW,seval];refine z7 HO ?_;cases po
   ·simp only[vW,seval];try rfl
   simp only[vW,seval];try rfl
  ·have hw:wellV ⟨6,f,n,m,⟨tk,ot⟩,x,o⟩=(z47 (⟨6,f,n,m,⟨tk,ot⟩,x,o⟩:Chg) (needC (⟨6,f,n,m,⟨tk,ot⟩,x,o⟩:Chg))&&(z11 f&&(psB x&&(psB o)))):=by
    rw[Bool.eq_iff_iff];simp only[wellV,needV,nameV,formV,z47,needC,psB,eqTy,ty0,Bool.and_eq_true,Bool.or_eq_true,beq_iff_eq,decide_eq_true_eq,if_true,if_false,Bool.false_eq_true,true_and,and_true,show((6:Int)=1)=False from by simp,show((6:Int)=2)=False from by simp,show((6:Int)=6)=True from by simp,show((6:Int)=3)=False from by simp,show((6:Int)=4)=False from by simp,show((6:Int)=5)=False from by simp,false_or,or_false,true_or,or_true];constructor
    ·intro h;simp_all
    ·intro h;simp_all
   rw[hw];clear hw;generalize z47 (⟨6,f,n,m,⟨tk,ot⟩,x,o⟩:Chg) (needC ⟨6,f,n,m,⟨tk,ot⟩,x,o⟩)=sb at*;simp only[needC,ty0,chT,if_true,if_false,show((6:Int)=1)=False from by simp,show((6:Int)=3)=False from by simp,show((6:Int)=4)=False from by simp,show((6:Int)=5)=False from by simp]at HC HS;generalize z11 f=bf at*;generalize z11 n=bn at*;generalize z16 ⟨tk,ot⟩=bt at*;generalize z11 m=bm at*;generalize psB x=px at*;generalize psB o=po at*;refine z10 tf_142 ?_;unfold chT B tyT at*;simp only[vW,seval];refine z7 HC ?_;simp only[vW,seval,HS];cases sb
   ·simp only[vW,seval];try rfl
   simp only[vW,seval];refine z7 HF ?_;cases bf
   ·simp only[vW,seval];try rfl
   simp only[vW,seval];refine z7 HX ?_;cases px
   ·simp only[vW,seval];try rfl
   simp only[vW,seval];refine z7 HO ?_;cases po
   ·simp only[vW,seval];try rfl
   simp only[vW,seval];try rfl
 ·have hw:wellV h=false:=by
   unfold wellV needV;rw[if_neg (by omega),if_neg (by omega),if_neg (by omega),if_neg (by omega),if_neg (by omega)];rfl
  rw[hw];refine z10 tf_142 ?_;unfold chT B;by_cases h1:h.k<1
  ·simp only[vW,seval,h1]
  ·have h6:6<h.k:=by omega
   simp only[vW,seval,h1,h6]
end Go.Proofs.YtcpaleaajdilgaaGreatDoor
end
