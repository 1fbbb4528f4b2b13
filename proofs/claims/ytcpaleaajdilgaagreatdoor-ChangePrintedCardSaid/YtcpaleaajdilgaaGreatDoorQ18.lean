/- Merged texts: Px5 Ze11. No statement of the program is proved here. -/
import Derived.Test.YtcpaleaajdilgaaGreatDoorQ17
set_option linter.unusedSimpArgs false
set_option linter.unusedVariables false
set_option maxRecDepth 100000
set_option maxHeartbeats 8000000
section
namespace Go.Mor
open Go
theorem zkb{l:zB}{p:Nat}{q:Pc}{z:Nat}(h:z0b l p=some (q,z)):q.s.length≤60:=by
 have hq:∀(r acc:zB) (k:Nat) (t:zB) (z:Nat),quoG r acc k=some (t,z)→t.length≤60:=by
  intro r
  induction r using(measure List.length).wf.induction with
  |_ r ih=>
   intro acc k t z h;cases r with
   |nil=>simp[quoG]at h
   |cons b r=>
    unfold quoG at h;split at h
    ·grind [zh]
    ·split at h
     ·split at h
      ·cases h
      ·rename_i c r';split at h
       ·exact ih r' (show r'.length<_ by simp;omega) _ _ _ _ h
       ·cases h
     ·exact ih r (show r.length<_ by simp) _ _ _ _ h
 cases l with
 |nil=>simp[z0b]at h
 |cons b r=>
  unfold z0b at h
  grind [zb,z0Z]
theorem z3r:∀(f:Nat) (l:zB) (a:Nat) (acc L:List Pc),(∀q∈acc,q.s.length≤60)→z0w f l a acc=some (.ok L)→(∀q∈L,q.s.length≤60)∧L.length≤acc.length+f
 |0,l,a,acc,L,_,h=>by simp[z0w]at h
 |f+1,l,a,acc,L,ha,h=>by
  unfold z0w at h;split at h
  ·cases h;exact⟨ha,by omega⟩
  ·split at h
   ·have:=z3r f _ _ _ _ ha h;exact⟨this.1,by omega⟩
   ·split at h
    ·cases h
    ·rename_i q z hq;have:=z3r f _ _ _ _ (fun x hx=>by
      rcases List.mem_append.1 hx with hx|hx
      ·exact ha x hx
      ·rw[List.mem_singleton]at hx;subst hx;exact zkb hq) h
     exact⟨this.1,by have:=this.2;simp at this;omega⟩
theorem zbh{L:List Pc}(h:∀q∈L,q.s.length≤60)(sz p:Nat):(pkP L sz p).s.length≤60:=by
 grind [pkP,List.mem_of_getElem?]
theorem z6Z(s:zB):0≤zq s∧zq s≤3:=by
 grind [zq]
end Go.Mor
end

section
namespace Go.Proofs.YtcpaleaajdilgaaGreatDoor
open Go Go.RowKit Go.Mor Go.Sh Go.Sh.Cd1 Go.Sh.Cd4 Go.Sh.Cd5
def rtL(r:V→Nat→Bool×Nat):List V→Nat→Bool×Nat
 |[],n=>(true,n)
 |x::l,n=>match r x n with
  |(true,n')=>rtL r l n'
  |(false,n')=>(false,n')
def rt:Nat→V→Nat→Bool×Nat
 |0,_,n=>(false,n+1)
 |d+1,e,n=>if n+1≤40∧z0y e=true then rtL (rt d) e.l (n+1)else(false,n+1)
theorem zpS{d:Nat}(ih:∀(e:V) (n:Nat),n≤40→((rt d e n).1=(okE d e&&decide (n+szE d e≤40))∧((rt d e n).1=true→(rt d e n).2=n+szE d e))):
  ∀(l:List V) (n:Nat),n≤40→((rtL (rt d) l n).1=(l.all (okE d)&&decide (n+(l.map (szE d)).sum≤40))∧((rtL (rt d) l n).1=true→(rtL (rt d) l n).2=n+(l.map (szE d)).sum)):=by
 intro l
 induction l with
 |nil=>intro n hn;simp[rtL,hn]
 |cons x l il=>
  intro n hn;have hx:=ih x n hn;unfold rtL;rcases hr:rt d x n with⟨b,n'⟩
  rw[hr]at hx;simp only at hx;cases b
  ·simp only[List.all_cons,List.map_cons,List.sum_cons];refine⟨?_,fun h=>by simp at h⟩;have h1:=hx.1;cases ho:okE d x
   ·simp
   ·rw[ho,Bool.true_and]at h1;have h2:¬n+szE d x≤40:=by intro h;rw[decide_eq_true h]at h1;exact absurd h1 (by simp)
    rw[decide_eq_false (by omega)];simp
  ·have h1:=hx.1;have h2:=hx.2 rfl;cases ho:okE d x
   ·rw[ho]at h1;simp at h1
   rw[ho,Bool.true_and]at h1;have h3:n+szE d x≤40:=of_decide_eq_true h1.symm;subst h2;have:=il (n+szE d x) h3;simp only[List.all_cons,List.map_cons,List.sum_cons,ho,Bool.true_and];rw[←Nat.add_assoc];exact this
theorem znd:∀(d:Nat) (e:V) (n:Nat),n≤40→((rt d e n).1=(okE d e&&decide (n+szE d e≤40))∧((rt d e n).1=true→(rt d e n).2=n+szE d e)):=by
 intro d
 induction d with
 |zero=>intro e n hn;simp[rt,okE]
 |succ d ih=>
  intro e n hn;unfold rt okE szE;by_cases h1:n+1≤40
  ·cases h2:z0y e
   ·simp
   ·rw[if_pos ⟨h1,rfl⟩];have:=zpS ih e.l (n+1) h1;rw[Nat.add_assoc]at this;simpa using this
  ·rw[if_neg (by omega),decide_eq_false (by omega)];simp
theorem zmi(e:V):(rt 8 e 0).1=z0q e:=by
 have:=(znd 8 e 0 (by omega)).1;rw[Nat.zero_add]at this;exact this
theorem zmg(m:Nat):∀(d:Nat),d≤8→∀(e:V),ESmall e→∀(n:Nat),n≤40→
  zC (gl0 m) 134 [.ptr 1000 0,tv e,I (9-(d:Int))] [.box [z0c,I (n:Int)]] (B (rt d e n).1) [.box [z0c,I ((rt d e n).2:Int)]]:=by
 intro d
 induction d with
 |zero=>
  intro _ e he n hn;refine zp tf_23 ?_;have w1:=wS n;unfold rt B;simp only[vW,seval,bmV,w1]
 |succ d ih=>
  intro hd e he n hn;refine zp tf_23 ?_;have w1:=wS n;have w2:IntKind.i64.wrap (9-((d+1:Nat):Int)+1)=9-(d:Int):=wG;have d1:¬(8:Int)<9-((d+1:Nat):Int):=by omega
  have HN:=znX m e he ((n+1:Nat):Int);have HD:=fun e he n hn=>ih (by omega) e he n hn;have hl:=he.len;unfold B at*;generalize hR:rt (d+1) e n=R;unfold rt at hR;by_cases d2:(40:Int)<((n+1:Nat):Int)
  ·rw[if_neg (by omega)]at hR;subst hR;simp only[vW,seval,bmV,w1,d1,d2]
  simp only[vW,seval,bmV,w1,d1,d2];refine zt HN ?_;cases hN:z0y e
  ·rw[if_neg (by simp[hN])]at hR;subst hR;simp only[vW,seval,bmV]
  rw[if_pos ⟨by omega,hN⟩]at hR;simp only[vW,seval,bmV];refine zw (σ:={x:Nat×Nat // x.1≤e.l.length∧x.2≤40∧rtL (rt d) (e.l.drop x.1) x.2=R})
   (fun x=>⟨[(0,.ptr 1000 0),(2,I (9-((d+1:Nat):Int))),(32,.pv (.sl 4 (V.rows e.l))),(33,I (e.l.length:Int)),(34,I (x.1.1:Int))],[(1000,[z0c,I (x.1.2:Int)])],[],[]⟩)
   (fun x=>e.l.length-x.1.1) ⟨(0,n+1),by omega,by omega,by simpa using hR⟩ ?_ ?_
  ·exact lwA
  rintro⟨⟨i,n⟩,hi,hn,hq⟩;simp only at hi hn hq;by_cases hlt:i<e.l.length
  ·have d1:(i:Int)<(e.l.length:Int):=by omega
   obtain⟨y,ey⟩:∃y,e.l[i]?=some y:=⟨_,gE hlt⟩
   have HY:=HD y (he.sub (gM ey)) n hn;have w1:=wS i;have hdr:e.l.drop i=y::e.l.drop (i+1):=by rw[List.drop_eq_getElem_cons hlt];congr 1;exact(gJ ey).2
   rw[hdr]at hq;unfold rtL at hq;have hle:=(znd d y n hn)
   rcases hr:rt d y n with⟨b,n'⟩
   rw[hr]at hq HY hle;simp only at hq HY hle;simp only[vW,seval,bmV,d1,ey,w2];refine zt HY ?_;cases b
   ·simp only at hq;subst hq;simp only[vW,seval,bmV]
   ·simp only at hq;have h3:n'≤40:=by
     have h4:=hle.1;have h5:=hle.2 rfl;rw[eq_comm,Bool.and_eq_true]at h4;have:=of_decide_eq_true h4.2;omega
    simp only[vW,seval,bmV,w1];refine zc ⟨(i+1,n'),by simp only;omega,h3,hq⟩ (by show e.l.length-(i+1)<e.l.length-i;omega) ?_;exact lwA
  ·have d1:¬(i:Int)<(e.l.length:Int):=by omega
   obtain rfl:i=e.l.length:=by omega
   rw[List.drop_length]at hq;unfold rtL at hq;subst hq;simp only[vW,seval,bmV,d1]
theorem z4d(m:Nat)(e:V)(he:ESmall e):zC (gl0 m) 77 [tv e] [] (B (z0q e)) []:=by
 have HB:=z6s (gl0 m);have HR:=zmg m 8 (by omega) e he 0 (by omega);rw[zmi]at HR;unfold B at*;refine za tf_97 ?_;simp only[vW,seval,bmV];refine zU HB ?_;exact z1h HR
end Go.Proofs.YtcpaleaajdilgaaGreatDoor
end
