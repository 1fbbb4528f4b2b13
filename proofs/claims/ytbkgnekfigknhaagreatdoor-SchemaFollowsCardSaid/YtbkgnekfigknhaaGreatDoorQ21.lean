/- Merged texts: Zg8 Zg9 Ze12 Zg10. No statement of the program is proved here. -/
import Derived.Test.YtbkgnekfigknhaaGreatDoorQ20
set_option linter.unusedSimpArgs false
set_option linter.unusedVariables false
set_option maxRecDepth 100000
set_option maxHeartbeats 8000000
section
namespace Go.Proofs.YtbkgnekfigknhaaGreatDoor
open Go Go.RowKit Go.Mor Go.Sh Go.Sh.Cd1
section
open Go.Sh.Cd6
theorem zn4(ids:List Nat):TV.m1 ids z1s=false:=rfl
theorem zn5(ids:List Nat):TV.m2 ids z1s=false:=rfl
theorem zn6(ids:List Nat):TV.m3 ids z1s=false:=rfl
theorem zge:TV.ids1 z1s=[]:=rfl
theorem zgf:TV.ids2 z1s=[]:=rfl
theorem zgg:TV.ids3 z1s=[]:=rfl
theorem zgh(ρ:Nat→Option Nat):TV.ren1 ρ z1s=some z1s:=rfl
theorem zgi(ρ:Nat→Option Nat):TV.ren2 ρ z1s=some z1s:=rfl
theorem zgj(ρ:Nat→Option Nat):TV.ren3 ρ z1s=some z1s:=rfl
theorem zdX:TV.cells z1s=some [z1s]:=rfl
theorem cmV:(type_of% @zn4)∧(type_of% @zn5)∧(type_of% @zn6)∧(type_of% @zge)∧(type_of% @zgf)∧(type_of% @zgg)∧(type_of% @zgh)∧(type_of% @zgi)∧(type_of% @zgj)∧(type_of% @zdX):=⟨@zn4,@zn5,@zn6,@zge,@zgf,@zgg,@zgh,@zgi,@zgj,@zdX⟩
section
variable{g:Sh.Glob}{f m:Nat}{dst fp:Option Nat}{xs:List Arg}{xs':List TV}{I:List Nat}{os os':List MO}{y:TV}{l:List SOper}{K:ES→Prop}{s s':ES}{G:Prop}
theorem z1U(hc:zC g f xs' os y os')(hk:zK Tryz.prog g l K s')(hx:callIn s m xs=some (xs',os,I):=by simp only[vW,seval,cmV];rfl)(hfp:z4B fp I=true:=by rfl)(hmo:moOk os os'=true:=by first|rfl|(simp only[vcA,seval];omega))(hs:callOut s dst I y os'=some s':=by simp only[vW,seval,cmV];rfl):
  zK Tryz.prog g (⟨dst,none,fp,.call f m xs⟩::l) K s:=zM hx hfp hc hmo hs hk
theorem z1y(hc:zC g f xs' os y os')(h:G)(hx:callIn s m xs=some (xs',os,I):=by simp only[vW,seval,cmV];rfl)(hfp:z4B fp I=true:=by rfl)(hmo:moOk os os'=true:=by first|rfl|(simp only[vcA,seval];omega))(hs:callOut s dst I y os'=some s':=by simp only[vW,seval,cmV];rfl)(hr:zK Tryz.prog g l K s'=G:=by simp only[vW,seval,cmV];rfl):
  zK Tryz.prog g (⟨dst,none,fp,.call f m xs⟩::l) K s:=zM hx hfp hc hmo hs (hr▸h)
theorem zdN(hc:zC g f xs' os y os')(hx:callIn s m xs=some (xs',os,I):=by simp only[vW,seval,cmV];rfl)(hfp:z4B fp I=true:=by rfl)(hmo:moOk os os'=true:=by first|rfl|(simp only[vcA,seval];omega))(hs:callOut s dst I y os'=some s':=by simp only[vW,seval,cmV];rfl)(hr:zK Tryz.prog g l K s':=by simp only[vW,seval,cmV]):
  zK Tryz.prog g (⟨dst,none,fp,.call f m xs⟩::l) K s:=zM hx hfp hc hmo hs hr
end
def zoV(s:zB):Option TV:=(callL.find? fun p=>p.1==s).map (·.2)
theorem zn3{s:zB}(h:0<zp s):∃y,zoV s=some y∧zer true (.agg #[.nilFunc,.nilFunc]) (some z1s) (some (.string (str s)))=some (y,.no):=by
 rcases z3N h with rfl|rfl|rfl|rfl|rfl|rfl|rfl|rfl|rfl|rfl<;>exact⟨_,rfl,by kernel_rfl⟩
def scp(c:Cls)(vs:PV):List TV:=[S (str c.n),.pv (.sl 4 (flR c.fs)),.pv vs,z1s]
theorem zbc{t:V→Ty×Bool}(x:V):∀(l:List V),z13 t (l++[x])=match z13 t l with|some ps=>if(t x).2 then some (ps++[(t x).1])else none|none=>none
 |[]=>by simp only[List.nil_append,z13];cases(t x).2<;>rfl
 |y::l=>by
  rw[List.cons_append,z13,z13,zbc x l];cases(t y).2
  ·rfl
  ·simp only[if_true];cases z13 t l with
   |none=>rfl
   |some ps=>cases(t x).2<;>rfl
theorem zcH{t:V→Ty×Bool}:∀{l:List V} {x:V},x∈l→(t x).2=false→z13 t l=none
 |y::l,x,hx,h=>by
  rw[z13];rcases List.mem_cons.1 hx with rfl|hx
  ·rw[h];rfl
  ·rw[zcH hx h];cases(t y).2<;>rfl
theorem zoC(L:List Ty)(k:Nat)(t:Ty)(h:k<L.length):List.take (k*2) (tyC L)++[TV.pv (.v (.int .i64 t.k)),TV.pv (.v (.int .i64 t.o))]++List.drop (k*2+2) (tyC L)=tyC (L.set k t):=by
 induction L generalizing k with
 |nil=>simp at h
 |cons p L ih=>
  cases k with
  |zero=>rfl
  |succ k=>
   have:=ih k (by simpa using h);rw[List.set_cons_succ];show List.take ((k+1)*2) (I p.k::I p.o::tyC L)++[I t.k,I t.o]++List.drop ((k+1)*2+2) (I p.k::I p.o::tyC L)=I p.k::I p.o::tyC (L.set k t);rw[show(k+1)*2=k*2+2 by omega];show I p.k::I p.o::(List.take (k*2) (tyC L)++[I t.k,I t.o]++List.drop (k*2+2) (tyC L))=_;rw[show List.take (k*2) (tyC L)++[I t.k,I t.o]++List.drop (k*2+2) (tyC L)=tyC (L.set k t) from this]
theorem zf5{α:Type}(L:List α)(i:Nat)(x:α)(h:i<L.length):(L.set i x).take (i+1)=L.take i++[x]:=by
 rw[List.take_add_one,List.take_set_of_le (Nat.le_refl _),List.getElem?_set_self h];rfl
theorem zmL(n:Nat):(List.replicate n [TV.pv (.v (.int .i64 0)),TV.pv (.v (.int .i64 0))]).flatten=tyC (List.replicate n ty0):=by
 induction n with
 |zero=>rfl
 |succ n ih=>
  rw[List.replicate_succ,List.flatten_cons,ih];rfl
def zdG(g:Sh.Glob)(c:Cls)(vs:PV)(d:Nat):Prop:=∀e,okE d e=true→ESmall e→zC g 100 [.ptr 1000 0,tv e] [.box (scp c vs)] (tyB (zm c.fs d e)) [.box (scp c vs)]
theorem zkA(g:Sh.Glob)(c:Cls)(vs:PV)(hc:c.fs.length≤4611686018427387904)(d:Nat)(IH:zdG g c vs d):zdG g c vs (d+1):=by
  intro e he hs
  obtain⟨hn,hk⟩:=z9n he
  have hl3:e.l.length≤3:=by
    rcases z47 hn with k|k|k|k|k|k
    · rw[(zhL hn k).2.2.2];simp
    · rw[(zbe hn k).2.2];simp
    · rw[(zhM hn k).2.2];simp
    · obtain⟨_,_,a,b,h⟩:=z9k hn k;rw[h];simp
    · obtain⟨_,_,a,h⟩:=zbf hn k;rw[h];simp
    · have h1:=(z9l hn k).2.2
      have h2:=z6Y e.s
      omega
  obtain⟨R,hR⟩:∃R,zm c.fs (d+1) e=R:=⟨_,rfl⟩
  rw[hR]
  unfold zm at hR
  have hKid:∀y∈e.l,zC g 100 [.ptr 1000 0,tv y] [.box (scp c vs)] (tyB (zm c.fs d y)) [.box (scp c vs)]:=fun y hy=>IH y (hk y hy) (hs.sub hy)
  unfold scp at*
  refine zn tf_18 ?_
  simp only[vW,seval,cmV,tyV,zmL]
  refine⟨⟨by omega,by unfold maxLen;omega⟩,?_⟩
  refine zl (σ:={p:Nat×List Ty // p.1≤e.l.length∧p.2.length=e.l.length∧z13 (zm c.fs d) (e.l.take p.1)=some (p.2.take p.1)})
    (fun p=>⟨[(0,.ptr 1000 0),(3,.ptr 3 0),(4,.ptr 4 0),(6,.bs 16 0 e.l.length e.l.length),(18,.pv (.sl 4 (V.rows e.l))),(19,I (e.l.length:Int)),(20,I (p.1.1:Int))],
      [(1000,[S (str c.n),.pv (.sl 4 (flR c.fs)),.pv vs,z1s]),(3,[I e.k,I e.n,S (str e.s),.pv (.sl 4 (V.rows e.l))]),(4,[I 0,I 0]),(16,tyC p.1.2)],[],[]⟩) (fun p=>e.l.length-p.1.1)
    ⟨(0,List.replicate e.l.length ty0),Nat.zero_le _,by simp,by simp[z13]⟩ ?_ ?_
  · exact lwA
  rintro⟨⟨i,L⟩,hi,hL,hT⟩
  simp only at hi hL hT
  by_cases hlt:i<e.l.length
  · have d1:(i:Int)<(e.l.length:Int):=by omega
    obtain⟨y,ey⟩:∃y,e.l[i]?=some y:=⟨_,gE hlt⟩
    have hmem:=gM ey
    have HF:=hKid y hmem
    have w1:=wS i
    have htk:e.l.take (i+1)=e.l.take i++[y]:=by rw[List.take_add_one,ey];rfl
    unfold tyB B at HF
    simp only[vW,seval,d1,ey,cmV,tyV]
    (with_reducible apply zM);simp only[vW,seval,cmV,tyV];rfl;rfl;exact HF;exact km;simp only[vW,seval,cmV,tyV];rfl
    cases h2:(zm c.fs d y).2
    · rw[zcH hmem h2]at hR
      simp only[vW,seval,cmV,tyV]
      rw[←hR];rfl
    · have hset:=zoC L i (zm c.fs d y).1 (by omega)
      simp only[vW,seval,cmV,tyV,w1,hset]
      refine⟨by omega,by omega,zc ⟨(i+1,L.set i (zm c.fs d y).1),hlt,by simp[hL],by simp only;rw[htk,zbc,hT,zf5 L i _ (by omega),h2];rfl⟩ (by show e.l.length-(i+1)<e.l.length-i;omega) ?_⟩
      exact lwA
  · have d1:¬(i:Int)<(e.l.length:Int):=by omega
    obtain rfl:i=e.l.length:=by omega
    rw[List.take_length,←hL,List.take_length]at hT
    rw[hT]at hR
    simp only at hR
    unfold z2L at hR
    rcases z47 hn with k|k|k|k|k|k
    · rw[if_neg (by omega),if_neg (by omega),if_neg (by omega),if_neg (by omega),if_neg (by omega)]at hR
      simp only[vW,seval,d1,cmV,tyV,k]
      rw[←hR]
    · rw[if_pos k]at hR
      simp only[vW,seval,d1,cmV,tyV,k]
      rw[←hR]
    · rw[if_neg (by omega),if_pos k]at hR
      have HA:=z4A g c e.s hc
      unfold z1D clT B at HA
      by_cases hf:fieldAt c.fs e.s<0
      · rw[if_pos hf]at HA hR
        simp only[vW,seval,d1,cmV,tyV,k]
        refine z1U HA ?_
        simp only[vW,seval,cmV,tyV]
        rw[←hR];rfl
      · rw[if_neg hf]at HA hR
        obtain⟨q,hq⟩:∃q:Nat,fieldAt c.fs e.s=q:=⟨(fieldAt c.fs e.s).toNat,by omega⟩
        obtain⟨f,hf1,_⟩:=z2J _ _ q hq
        rw[hq]at HA hR
        rw[Int.toNat_natCast,z6O hf1]at hR
        simp only[vW,seval,d1,cmV,tyV,k]
        refine z1U HA ?_
        simp only[vW,seval,cmV,tyV,clV,hf1]
        rw[←hR]
    · rw[if_neg (by omega),if_neg (by omega),if_pos k]at hR
      obtain⟨_,hb,a,b,hab⟩:=z9k hn k
      have hlen:L.length=2:=by rw[hL,hab];rfl
      obtain⟨p,q,rfl⟩:∃p q,L=[p,q]:=by
        match L,hlen with
        |[p,q],_=>exact⟨p,q,rfl⟩
      have HO:=zfM g e.s
      have T1:=z1g g 1 [1,1] [p,q] rfl (by simp)
      have T2:=z1g g 2 [2,2] [p,q] rfl (by simp)
      have T3:=zm8 g p q
      unfold zhP at HO
      unfold zdw at hR
      have hl2:e.l.length=2:=by rw[hab];rfl
      by_cases h1:e.s=[43]∨e.s=[45]∨e.s=[42]∨e.s=[47]∨e.s=[37]
      · rw[if_pos h1]at HO hR
        unfold z05 at HO
        rw[hR]at T1
        simp only[vW,seval,d1,cmV,tyV,k,hl2]
        refine z1U HO ?_
        simp only[vW,seval,cmV,tyV]
        unfold tyB B at T1
        (with_reducible apply zx);simp only[vW,seval,cmV,tyV];rfl;exact T1;rfl;simp only[vW,seval,cmV,tyV];rfl
        simp only[vW,seval,cmV,tyV]
      · rw[if_neg h1]at HO hR
        by_cases h2:e.s=[38]
        · rw[if_pos h2]at HO hR
          unfold z05 at HO
          rw[hR]at T2
          simp only[vW,seval,d1,cmV,tyV,k,hl2]
          refine z1U HO ?_
          simp only[vW,seval,cmV,tyV]
          unfold tyB B at T2
          (with_reducible apply zx);simp only[vW,seval,cmV,tyV];rfl;exact T2;rfl;simp only[vW,seval,cmV,tyV];rfl
          simp only[vW,seval,cmV,tyV]
        · rw[if_neg h2]at HO hR
          have hR:((⟨1,0⟩:Ty),z1M p q)=R:=hR
          rw[hR]at T3
          simp only[vW,seval,d1,cmV,tyV,k,hl2]
          refine z1U HO ?_
          simp only[vW,seval,cmV,tyV]
          unfold tyB B at T3
          (with_reducible apply zx);simp only[vW,seval,cmV,tyV];rfl;exact T3;rfl;simp only[vW,seval,cmV,tyV];rfl
          simp only[vW,seval,cmV,tyV]
    · rw[if_neg (by omega),if_neg (by omega),if_neg (by omega),if_pos k]at hR
      obtain⟨_,hb,a,hab⟩:=zbf hn k
      have hl1:e.l.length=1:=by rw[hab];rfl
      obtain⟨p,rfl⟩:∃p,L=[p]:=by
        match L,hL.trans hl1 with
        |[p],_=>exact⟨p,rfl⟩
      have HO:=z2g g 1 [1]
      have T1:=z1g g 1 [1] [p] rfl (by simp)
      unfold z05 at HO
      rw[hR]at T1
      simp only[vW,seval,d1,cmV,tyV,k,hl1]
      (with_reducible apply zM);simp only[vW,seval,cmV,in1];rfl;rfl;exact HO;exact km;simp only[vW,seval,cmV,in1];rfl
      simp only[vW,seval,cmV,tyV]
      unfold tyB B at T1
      (with_reducible apply zx);simp only[vW,seval,cmV,tyV];rfl;exact T1;rfl;simp only[vW,seval,cmV,tyV];rfl
      simp only[vW,seval,cmV,tyV]
    · rw[if_neg (by omega),if_neg (by omega),if_neg (by omega),if_neg (by omega),if_pos k]at hR
      obtain⟨_,hb,hlk⟩:=z9l hn k
      obtain⟨y,hy,hlkp⟩:=zn3 hb
      generalize hs':e.s=s' at hb hy hlkp hlk hR
      rcases z3N hb with rfl|rfl|rfl|rfl|rfl|rfl|rfl|rfl|rfl|rfl
      · have hl1 : e.l.length = 1 := by have : zp z4q = 1 := by decide
                                        omega
        obtain⟨p,rfl⟩:∃p,L=[p]:=by
          match L,hL.trans hl1 with
          |[p],_=>exact⟨p,rfl⟩
        obtain rfl:clE (z05 1 [2]) (fnP 102)=y:=Option.some.inj hy
        have T1:=z1g g 1 [2] [p] rfl (by simp)
        rw[show zG 1 [2] [p]=R from hR]at T1
        unfold clE z05 fnP at hlkp
        unfold tyB B at T1
        simp only[vW,seval,d1,cmV,tyV,k,hl1,hs',hlkp]
        (with_reducible apply zx);simp only[vW,seval,cmV,tyV];rfl;exact T1;rfl;simp only[vW,seval,cmV,tyV];rfl
        simp only[vW,seval,cmV,tyV]
      · have hl1 : e.l.length = 1 := by have : zp z1G = 1 := by decide
                                        omega
        obtain⟨p,rfl⟩:∃p,L=[p]:=by
          match L,hL.trans hl1 with
          |[p],_=>exact⟨p,rfl⟩
        obtain rfl:clE (z05 2 [1]) (fnP 112)=y:=Option.some.inj hy
        have T1:=z1g g 2 [1] [p] rfl (by simp)
        rw[show zG 2 [1] [p]=R from hR]at T1
        unfold clE z05 fnP at hlkp
        unfold tyB B at T1
        simp only[vW,seval,d1,cmV,tyV,k,hl1,hs',hlkp]
        (with_reducible apply zx);simp only[vW,seval,cmV,tyV];rfl;exact T1;rfl;simp only[vW,seval,cmV,tyV];rfl
        simp only[vW,seval,cmV,tyV]
      · have hl1 : e.l.length = 1 := by have : zp z4r = 1 := by decide
                                        omega
        obtain⟨p,rfl⟩:∃p,L=[p]:=by
          match L,hL.trans hl1 with
          |[p],_=>exact⟨p,rfl⟩
        obtain rfl:clE (z05 1 [2]) (fnP 113)=y:=Option.some.inj hy
        have T1:=z1g g 1 [2] [p] rfl (by simp)
        rw[show zG 1 [2] [p]=R from hR]at T1
        unfold clE z05 fnP at hlkp
        unfold tyB B at T1
        simp only[vW,seval,d1,cmV,tyV,k,hl1,hs',hlkp]
        (with_reducible apply zx);simp only[vW,seval,cmV,tyV];rfl;exact T1;rfl;simp only[vW,seval,cmV,tyV];rfl
        simp only[vW,seval,cmV,tyV]
      · have hl1 : e.l.length = 2 := by have : zp z1v = 2 := by decide
                                        omega
        obtain⟨p,q,rfl⟩:∃p q,L=[p,q]:=by
          match L,hL.trans hl1 with
          |[p,q],_=>exact⟨p,q,rfl⟩
        obtain rfl:clE (z05 2 [2,1]) (fnP 105)=y:=Option.some.inj hy
        have T1:=z1g g 2 [2,1] [p,q] rfl (by simp)
        rw[show zG 2 [2,1] [p,q]=R from hR]at T1
        unfold clE z05 fnP at hlkp
        unfold tyB B at T1
        simp only[vW,seval,d1,cmV,tyV,k,hl1,hs',hlkp]
        (with_reducible apply zx);simp only[vW,seval,cmV,tyV];rfl;exact T1;rfl;simp only[vW,seval,cmV,tyV];rfl
        simp only[vW,seval,cmV,tyV]
      · have hl1 : e.l.length = 2 := by have : zp z0X = 2 := by decide
                                        omega
        obtain⟨p,q,rfl⟩:∃p q,L=[p,q]:=by
          match L,hL.trans hl1 with
          |[p,q],_=>exact⟨p,q,rfl⟩
        obtain rfl:clE (z05 2 [2,1]) (fnP 108)=y:=Option.some.inj hy
        have T1:=z1g g 2 [2,1] [p,q] rfl (by simp)
        rw[show zG 2 [2,1] [p,q]=R from hR]at T1
        unfold clE z05 fnP at hlkp
        unfold tyB B at T1
        simp only[vW,seval,d1,cmV,tyV,k,hl1,hs',hlkp]
        (with_reducible apply zx);simp only[vW,seval,cmV,tyV];rfl;exact T1;rfl;simp only[vW,seval,cmV,tyV];rfl
        simp only[vW,seval,cmV,tyV]
      · have hl1 : e.l.length = 2 := by have : zp z1u = 2 := by decide
                                        omega
        obtain⟨p,q,rfl⟩:∃p q,L=[p,q]:=by
          match L,hL.trans hl1 with
          |[p,q],_=>exact⟨p,q,rfl⟩
        obtain rfl:clE (z05 2 [2,1]) (fnP 109)=y:=Option.some.inj hy
        have T1:=z1g g 2 [2,1] [p,q] rfl (by simp)
        rw[show zG 2 [2,1] [p,q]=R from hR]at T1
        unfold clE z05 fnP at hlkp
        unfold tyB B at T1
        simp only[vW,seval,d1,cmV,tyV,k,hl1,hs',hlkp]
        (with_reducible apply zx);simp only[vW,seval,cmV,tyV];rfl;exact T1;rfl;simp only[vW,seval,cmV,tyV];rfl
        simp only[vW,seval,cmV,tyV]
      · have hl1 : e.l.length = 2 := by have : zp z3a = 2 := by decide
                                        omega
        obtain⟨p,q,rfl⟩:∃p q,L=[p,q]:=by
          match L,hL.trans hl1 with
          |[p,q],_=>exact⟨p,q,rfl⟩
        obtain rfl:clE (z05 1 [2,2]) (fnP 110)=y:=Option.some.inj hy
        have T1:=z1g g 1 [2,2] [p,q] rfl (by simp)
        rw[show zG 1 [2,2] [p,q]=R from hR]at T1
        unfold clE z05 fnP at hlkp
        unfold tyB B at T1
        simp only[vW,seval,d1,cmV,tyV,k,hl1,hs',hlkp]
        (with_reducible apply zx);simp only[vW,seval,cmV,tyV];rfl;exact T1;rfl;simp only[vW,seval,cmV,tyV];rfl
        simp only[vW,seval,cmV,tyV]
      · have hl1 : e.l.length = 2 := by have : zp z4G = 2 := by decide
                                        omega
        obtain⟨p,q,rfl⟩:∃p q,L=[p,q]:=by
          match L,hL.trans hl1 with
          |[p,q],_=>exact⟨p,q,rfl⟩
        obtain rfl:clE (z05 1 [1,1]) (fnP 117)=y:=Option.some.inj hy
        have T1:=z1g g 1 [1,1] [p,q] rfl (by simp)
        rw[show zG 1 [1,1] [p,q]=R from hR]at T1
        unfold clE z05 fnP at hlkp
        unfold tyB B at T1
        simp only[vW,seval,d1,cmV,tyV,k,hl1,hs',hlkp]
        (with_reducible apply zx);simp only[vW,seval,cmV,tyV];rfl;exact T1;rfl;simp only[vW,seval,cmV,tyV];rfl
        simp only[vW,seval,cmV,tyV]
      · have hl1 : e.l.length = 2 := by have : zp z5k = 2 := by decide
                                        omega
        obtain⟨p,q,rfl⟩:∃p q,L=[p,q]:=by
          match L,hL.trans hl1 with
          |[p,q],_=>exact⟨p,q,rfl⟩
        obtain rfl:clE (z05 1 [1,1]) (fnP 118)=y:=Option.some.inj hy
        have T1:=z1g g 1 [1,1] [p,q] rfl (by simp)
        rw[show zG 1 [1,1] [p,q]=R from hR]at T1
        unfold clE z05 fnP at hlkp
        unfold tyB B at T1
        simp only[vW,seval,d1,cmV,tyV,k,hl1,hs',hlkp]
        (with_reducible apply zx);simp only[vW,seval,cmV,tyV];rfl;exact T1;rfl;simp only[vW,seval,cmV,tyV];rfl
        simp only[vW,seval,cmV,tyV]
      · have hl1 : e.l.length = 3 := by have : zp nIf = 3 := by decide
                                        omega
        obtain⟨p,q,r,rfl⟩:∃p q r,L=[p,q,r]:=by
          match L,hL.trans hl1 with
          |[p,q,r],_=>exact⟨p,q,r,rfl⟩
        obtain rfl:clE (fnP 115) (fnP 116)=y:=Option.some.inj hy
        have T1:=ziX g p q r
        rw[show z2a [p,q,r]=R from hR]at T1
        unfold clE fnP at hlkp
        unfold tyB B at T1
        simp only[vW,seval,d1,cmV,tyV,k,hl1,hs',hlkp]
        (with_reducible apply zx);simp only[vW,seval,cmV,tyV];rfl;exact T1;rfl;simp only[vW,seval,cmV,tyV];rfl
        simp only[vW,seval,cmV,tyV]
theorem zd1(g:Sh.Glob)(c:Cls)(vs:PV)(hc:c.fs.length≤4611686018427387904):∀d,zdG g c vs d
 |0=>fun e he=>by simp[okE]at he
 |d+1=>zkA g c vs hc d (zd1 g c vs hc d)
end
section
open Go.Sh.Cd6
theorem zq1(L:List V)(k:Nat)(t:V)(h:k<L.length):List.take (k*4) (vC L)++[TV.pv (.v (.int .i64 t.k)),TV.pv (.v (.int .i64 t.n)),TV.pv (.v (.string (str t.s))),TV.pv (.sl 4 (V.rows t.l))]++List.drop (k*4+4) (vC L)=vC (L.set k t):=by
 induction L generalizing k with
 |nil=>simp at h
 |cons p L ih=>
  cases k with
  |zero=>rw[List.set_cons_zero,z0U,z0U];rfl
  |succ k=>
   have:=ih k (by simpa using h);rw[List.set_cons_succ,z0U,z0U,←this,show(k+1)*4=k*4+4 by omega];rfl
def zbH:List TV:=[TV.pv (.v (.int .i64 0)),TV.pv (.v (.int .i64 0)),TV.pv (.v (.string ⟨#[]⟩)),TV.pv (.v (.slice none 0 0))]
theorem zh0:∀(n j:Nat) (c d:TV),(List.replicate n zbH).flatten[j]?=some c→(vC (List.replicate n V.nil))[j]?=some d→Wk c d
 |0,j,c,d,h,_=>by simp at h
 |n+1,j,c,d,h,h'=>by
  rw[List.replicate_succ,List.flatten_cons]at h;rw[List.replicate_succ,z0U]at h'
  match j with
  |0=>cases h;cases h';exact .refl _
  |1=>cases h;cases h';exact .refl _
  |2=>cases h;cases h';exact .refl _
  |3=>cases h;cases h';exact z2F 4
  |j+4=>exact zh0 n j c d (by simpa [zbH]using h) (by simpa using h')
theorem zgZ(n:Nat):List.map (fgt3 []) (List.replicate n [TV.pv (.v (.int .i64 0)),TV.pv (.v (.int .i64 0)),TV.pv (.v (.string ⟨#[]⟩)),TV.pv (.v (.slice none 0 0))]).flatten=(List.replicate n zbH).flatten:=by
 induction n with
 |zero=>rfl
 |succ n ih=>rw[List.replicate_succ,List.flatten_cons,List.map_append,ih];rfl
theorem zmU(n:Nat):(List.replicate n zbH).flatten.length=(vC (List.replicate n V.nil)).length:=by
 rw[zfl,List.length_replicate]
 induction n with
 |zero=>rfl
 |succ n ih=>rw[List.replicate_succ,List.flatten_cons,List.length_append,ih];simp[zbH];omega
def zh5(e R:V):TV:=if e.k=3∨(e.k=6∧e.s=nIf)then tv R else nv R
structure ValsOk(c:Cls)(vals:List V):Prop where
 cl:c.fs.length≤4611686018427387904
 fit:z5H c.fs vals
 few:∀v∈vals,VFew v
def zg2(m:Nat)(c:Cls)(vals:List V)(d:Nat):Prop:=∀e,okE d e=true→ESmall e→(zm c.fs d e).2=true→zC (glE m) 60 [.ptr 1000 0,tv e] [.box (scp c (.sl 4 (V.rows vals)))] (tv (z1O c.fs vals d e)) [.box (scp c (.sl 4 (V.rows vals)))]
theorem zjC{t:V→Ty×Bool}{l:List V}{ps:List Ty}(h:z13 t l=some ps){x:V}(hx:x∈l):(t x).2=true:=by
 obtain⟨i,hi⟩:=List.getElem?_of_mem hx;exact((z7o h).2 i x hi).1
theorem zoq{s:zB}(h:zk s=true):z2u s:=by
 unfold zk at h;simp at h;exact h.1
theorem z52{v:V}{t:Ty}(h:zF v t=true)(hk:t.k=2):z2u v.s:=by
 have:=(z6Z h hk).2.2.2;unfold zk at this;simp at this;exact this.1
theorem z89{v:V}{t:Ty}(h:zF v t=true)(hk:t.k=1):RgN v.n:=⟨(zeB h hk).2.1,(zeB h hk).2.2.1⟩
theorem zhr{v:V}{t:Ty}(h:zF v t=true)(hk:t.k=1∨t.k=2):VSmall v:=by
 rcases hk with hk|hk
 ·exact(ze6 (zeB h hk).2.2.2.2).small
 ·exact(ze6 (z6Z h hk).2.2.1).small
theorem z7I{k a:Int}{t:Ty}(h:(zG k [a] [t]).2=true):t.k=a:=by
 unfold zG at h;split at h
 ·rename_i h1;simpa [z27]using h1
 ·cases h
theorem z3n{k a b:Int}{t u:Ty}(h:(zG k [a,b] [t,u]).2=true):t.k=a∧u.k=b:=by
 unfold zG at h;split at h
 ·rename_i h1;simpa [z27]using h1
 ·cases h
theorem zhk{l:List V}{i:Nat}{y:V}{f:V→V}(h:l[i]?=some y):(l.take (i+1)).map f=(l.take i).map f++[f y]:=by rw[List.take_add_one,h];simp
theorem ziJ(m:Nat)(c:Cls)(vals:List V)(hv:ValsOk c vals)(d:Nat)(IH:zg2 m c vals d)(e:V)(he:okE (d+1) e=true)(hs:ESmall e)(ht:(zm c.fs (d+1) e).2=true):
    zC (glE m) 60 [.ptr 1000 0,tv e] [.box (scp c (.sl 4 (V.rows vals)))] (zh5 e (z1O c.fs vals (d+1) e)) [.box (scp c (.sl 4 (V.rows vals)))]:=by
  obtain⟨hn,hk⟩:=z9n he
  have hl3:e.l.length≤3:=by
    rcases z47 hn with k|k|k|k|k|k
    · rw[(zhL hn k).2.2.2];simp
    · rw[(zbe hn k).2.2];simp
    · rw[(zhM hn k).2.2];simp
    · obtain⟨_,_,a,b,h⟩:=z9k hn k;rw[h];simp
    · obtain⟨_,_,a,h⟩:=zbf hn k;rw[h];simp
    · have h1:=(z9l hn k).2.2
      have h2:=z6Y e.s
      omega
  have ht':=ht
  unfold zm at ht'
  obtain⟨ps,hps⟩:∃ps,z13 (zm c.fs d) e.l=some ps:=by
    cases h:z13 (zm c.fs d) e.l with
    |none=>rw[h]at ht';cases ht'
    |some ps=>exact⟨ps,rfl⟩
  rw[hps]at ht'
  simp only at ht'
  obtain⟨hpl,hpa⟩:=z7o hps
  have hKid:∀y∈e.l,zC (glE m) 60 [.ptr 1000 0,tv y] [.box (scp c (.sl 4 (V.rows vals)))] (tv (z1O c.fs vals d y)) [.box (scp c (.sl 4 (V.rows vals)))]:=fun y hy=>IH y (hk y hy) (hs.sub hy) (zjC hps hy)
  have hPF:za4 (e.l.map (z1O c.fs vals d)) ps:=⟨by rw[List.length_map,hpl],fun i w t hw ht=>by
    rw[List.getElem?_map]at hw
    obtain⟨x,hx,rfl⟩:=gO hw
    obtain⟨q1,q2⟩:=hpa i x hx
    rw[ht]at q2
    have:=Option.some.inj q2
    exact z5q hv.fit d x t (hk x (gM hx)) (by rw[this,←q1])⟩
  obtain⟨Y,hY⟩:∃Y,zh5 e (z1O c.fs vals (d+1) e)=Y:=⟨_,rfl⟩
  rw[hY]
  unfold z1O at hY
  unfold scp at*
  refine zn tf_19 ?_
  simp only[vW,seval,cmV,vcC]
  refine⟨⟨by omega,by unfold maxLen;omega⟩,?_⟩
  refine zl (σ:={p:Nat×List V // p.1≤e.l.length∧p.2.length=e.l.length∧(e.l.take p.1).map (z1O c.fs vals d)=p.2.take p.1})
    (fun p=>⟨[(0,.ptr 1000 0),(3,.ptr 3 0),(4,.ptr 4 0),(5,.bs 13 0 e.l.length e.l.length),(15,.pv (.sl 4 (V.rows e.l))),(16,I (e.l.length:Int)),(17,I (p.1.1:Int))],
      [(1000,[S (str c.n),.pv (.sl 4 (flR c.fs)),.pv (.sl 4 (V.rows vals)),z1s]),(3,[I e.k,I e.n,S (str e.s),.pv (.sl 4 (V.rows e.l))]),(4,[I 0,I 0,S ⟨#[]⟩,.pv (.v (.slice none 0 0))]),(13,vC p.1.2)],[],[]⟩) (fun p=>e.l.length-p.1.1)
    ⟨(0,List.replicate e.l.length V.nil),Nat.zero_le _,by simp,by simp⟩ ?_ ?_
  · refine ES.Lw.trans ?_ (zk2 (k:=13) (ds:=vC (List.replicate e.l.length V.nil)) rfl (by rw[zgZ];exact zmU _) (by rw[zgZ];exact zh0 _))
    exact lwA
  rintro⟨⟨i,L⟩,hi,hL,hT⟩
  simp only at hi hL hT
  by_cases hlt:i<e.l.length
  · have d1:(i:Int)<(e.l.length:Int):=by omega
    obtain⟨y,ey⟩:∃y,e.l[i]?=some y:=⟨_,gE hlt⟩
    have hmem:=gM ey
    have HF:=hKid y hmem
    have w1:=wS i
    have hset:=zq1 L i (z1O c.fs vals d y) (by omega)
    have hsn:(e.l.take (i+1)).map (z1O c.fs vals d)=(L.set i (z1O c.fs vals d y)).take (i+1):=by rw[zhk ey,hT,zf5 L i _ (by omega)]
    simp only[vW,seval,d1,ey,cmV,vcC]
    (with_reducible apply zM);simp only[vW,seval,cmV,vcC];rfl;rfl;exact HF;exact km;simp only[vW,seval,cmV,vcC];rfl
    simp only[vW,seval,cmV,vcC,w1,hset]
    refine⟨by omega,by omega,zc ⟨(i+1,L.set i (z1O c.fs vals d y)),hlt,by simp[hL],hsn⟩ (by show e.l.length-(i+1)<e.l.length-i;omega) ?_⟩
    exact lwA
  · have d1:¬(i:Int)<(e.l.length:Int):=by omega
    obtain rfl:i=e.l.length:=by omega
    rw[List.take_length,←hL,List.take_length]at hT
    rw[hT]at hY hPF
    have hL3:L.length≤3:=by omega
    unfold z9m at hY
    unfold z2L at ht'
    unfold zh5 at hY
    rcases z47 hn with k|k|k|k|k|k
    · rw[if_neg (by omega),if_neg (by omega),if_neg (by omega),if_neg (by omega),if_neg (by omega),if_neg (by omega)]at hY
      have HN:=z0S (glE m) e.n
      subst hY
      generalize z0l e.n=r at*
      unfold nv at*
      simp only[vW,seval,d1,cmV,vcC,k]
      (with_reducible apply zM);simp only[vW,seval,cmV,vcC];rfl;rfl;exact HN;exact km;simp only[vW,seval,cmV,vcC];rfl
      simp only[vW,seval,cmV,vcC]
    · rw[if_neg (by omega),if_pos k]at hY
      have HN:=z4P (glE m) e.s (by have:=zoq (zbe hn k).2.1;unfold z2u at this;omega)
      subst hY
      generalize z1T e.s=r at*
      unfold nv at*
      simp only[vW,seval,d1,cmV,vcC,k]
      (with_reducible apply zM);simp only[vW,seval,cmV,vcC];rfl;rfl;exact HN;exact km;simp only[vW,seval,cmV,vcC];rfl
      simp only[vW,seval,cmV,vcC]
    · rw[if_pos (Or.inl k),if_neg (by omega),if_pos k]at hY
      rw[if_neg (by omega),if_pos k]at ht'
      have hf:¬fieldAt c.fs e.s<0:=fun h=>by rw[if_pos h]at ht';cases ht'
      have HA:=z4A (glE m) c e.s hv.cl
      unfold z1D clT B at HA
      rw[if_neg hf]at HA
      obtain⟨f,v,h1,h2,h3,_⟩:=ze7 hv.fit hf
      obtain⟨q,hq⟩:∃q:Nat,fieldAt c.fs e.s=q:=⟨(fieldAt c.fs e.s).toNat,by omega⟩
      rw[hq]at HA hY h2
      rw[Int.toNat_natCast]at hY h2
      rw[z6O h2]at hY
      have HF:=zlx (glE m) v (hv.few v (gM h2))
      subst hY
      unfold tv at*
      simp only[vW,seval,d1,cmV,vcC,k]
      (with_reducible apply zM);simp only[vW,seval,cmV,vcC];rfl;rfl;exact HA;exact km;simp only[vW,seval,cmV,vcC];rfl
      simp only[vW,seval,cmV,vcC,h2]
      (with_reducible apply zM);simp only[vW,seval,cmV,vcC];rfl;rfl;exact HF;exact km;simp only[vW,seval,cmV,vcC];rfl
      simp only[vW,seval,cmV,vcC]
    · rw[if_neg (by omega),if_neg (by omega),if_neg (by omega),if_pos k]at hY
      rw[if_neg (by omega),if_neg (by omega),if_pos k]at ht'
      obtain⟨_,hb,a,b,hab⟩:=z9k hn k
      have hlen:L.length=2:=by rw[hL,hab];rfl
      have hl2:e.l.length=2:=by rw[hab];rfl
      obtain⟨p,q,rfl⟩:∃p q,L=[p,q]:=by
        match L,hlen with
        |[p,q],_=>exact⟨p,q,rfl⟩
      obtain⟨t,u,rfl⟩:∃t u,ps=[t,u]:=by
        match ps,hpl.trans hl2 with
        |[t,u],_=>exact⟨t,u,rfl⟩
      have fp:zF p t=true:=hPF.2 0 p t rfl rfl
      have fq:zF q u=true:=hPF.2 1 q u rfl rfl
      have HO:zC (glE m) 120 [S (str e.s),tv p,tv q] [] (nv (opV e.s p q)) []:=by
        unfold zdw at ht'
        by_cases h1:e.s=[43]∨e.s=[45]∨e.s=[42]∨e.s=[47]∨e.s=[37]
        · rw[if_pos h1]at ht'
          obtain⟨k0,k1⟩:=z3n ht'
          exact zmb (glE m) e.s (z89 fp k0) (z89 fq k1) (by rcases h1 with h|h|h|h|h<;>simp[h])
        · rw[if_neg h1]at ht'
          by_cases h2:e.s=[38]
          · rw[if_pos h2]at ht'
            obtain⟨k0,k1⟩:=z3n ht'
            rw[h2]
            exact zma (glE m) (z52 fp k0) (z52 fq k1)
          · rw[if_neg h2]at ht'
            exact zm9 (glE m) e.s (zhr fp (zce (show z1M t u=true from ht')).2) (by rcases zfw hb with h|h|h|h|h|h|h|h|h|h|h|h<;>simp[h]at h1 h2 ⊢)
      simp only[List.getD_cons_zero,List.getD_cons_succ]at hY
      subst hY
      generalize opV e.s p q=r at*
      unfold nv tv at*
      simp only[vW,seval,d1,cmV,vcC,k,hl2,z0U,z31]
      (with_reducible apply zM);simp only[vW,seval,cmV,vcC];rfl;rfl;exact HO;exact km;simp only[vW,seval,cmV,vcC];rfl
      simp only[vW,seval,cmV,vcC]
    · rw[if_neg (by omega),if_neg (by omega),if_neg (by omega),if_neg (by omega),if_pos k]at hY
      rw[if_neg (by omega),if_neg (by omega),if_neg (by omega),if_pos k]at ht'
      obtain⟨_,hb,a,hab⟩:=zbf hn k
      have hl1:e.l.length=1:=by rw[hab];rfl
      obtain⟨p,rfl⟩:∃p,L=[p]:=by
        match L,hL.trans hl1 with
        |[p],_=>exact⟨p,rfl⟩
      obtain⟨t,rfl⟩:∃t,ps=[t]:=by
        match ps,hpl.trans hl1 with
        |[t],_=>exact⟨t,rfl⟩
      have fp:zF p t=true:=hPF.2 0 p t rfl rfl
      have rg:=z89 fp (z7I ht')
      unfold RgN at rg
      have w1:IntKind.i64.wrap (0-p.n)= -p.n:=wG
      have HN:=z0S (glE m) (-p.n)
      simp only[List.getD_cons_zero]at hY
      subst hY
      generalize z0l (-p.n)=r at*
      unfold nv at*
      simp only[vW,seval,d1,cmV,vcC,k,hl1,z0U,z31,w1]
      (with_reducible apply zM);simp only[vW,seval,cmV,vcC];rfl;rfl;exact HN;exact km;simp only[vW,seval,cmV,vcC];rfl
      simp only[vW,seval,cmV,vcC]
    · simp only[if_neg (show ¬e.k=2 by omega),if_neg (show ¬e.k=3 by omega),if_neg (show ¬e.k=4 by omega),if_neg (show ¬e.k=5 by omega),if_pos k]at hY
      rw[if_neg (by omega),if_neg (by omega),if_neg (by omega),if_neg (by omega),if_pos k]at ht'
      obtain⟨_,hb,hlen⟩:=z9l hn k
      obtain⟨ym,hy,hlkp⟩:=zn3 hb
      rcases z3N hb with hs'|hs'|hs'|hs'|hs'|hs'|hs'|hs'|hs'|hs'<;>rw[hs']at hY ht' hlen hy hlkp
      · have hl1 : e.l.length = 1 := by have : zp z4q = 1 := by decide
                                        omega
        obtain⟨x,rfl⟩:∃x,L=[x]:=by
          match L,hL.trans hl1 with
          |[x],_=>exact⟨x,rfl⟩
        obtain⟨t0,rfl⟩:∃t0,ps=[t0]:=by
          match ps,hpl.trans hl1 with
          |[t0],_=>exact⟨t0,rfl⟩
        obtain rfl:clE (z05 1 [2]) (fnP 102)=ym:=Option.some.inj hy
        have ht':(zG 1 [2] [t0]).2=true:=ht'
        have f0:zF x t0=true:=hPF.2 0 x t0 rfl rfl
        have k0:=z7I ht'
        have T1:zC (glE m) 102 [.bs 1000 0 1 1] [.box (vC [x])] (nv (z06 z4q [x])) [.box (vC [x])]:=zkY (glE m) (z52 f0 k0)
        rw[if_neg (fun h=>h.elim (fun h=>by omega) fun h=>absurd h.2 (by decide))]at hY
        subst hY
        generalize z06 z4q [x]=r at*
        unfold clE fnP z05 at hlkp
        unfold nv at*
        simp only[vW,seval,d1,cmV,vcC,k,hl1,hs',hlkp]
        (with_reducible apply zx);simp only[vW,seval,cmV,vcC];rfl;exact T1;rfl;simp only[vW,seval,cmV,vcC];rfl
        simp only[vW,seval,cmV,vcC]
      · have hl1 : e.l.length = 1 := by have : zp z1G = 1 := by decide
                                        omega
        obtain⟨x,rfl⟩:∃x,L=[x]:=by
          match L,hL.trans hl1 with
          |[x],_=>exact⟨x,rfl⟩
        obtain⟨t0,rfl⟩:∃t0,ps=[t0]:=by
          match ps,hpl.trans hl1 with
          |[t0],_=>exact⟨t0,rfl⟩
        obtain rfl:clE (z05 2 [1]) (fnP 112)=ym:=Option.some.inj hy
        have ht':(zG 2 [1] [t0]).2=true:=ht'
        have f0:zF x t0=true:=hPF.2 0 x t0 rfl rfl
        have k0:=z7I ht'
        have T1:zC (glE m) 112 [.bs 1000 0 1 1] [.box (vC [x])] (nv (z06 z1G [x])) [.box (vC [x])]:=zio (zl3 m (z89 f0 k0))
        rw[if_neg (fun h=>h.elim (fun h=>by omega) fun h=>absurd h.2 (by decide))]at hY
        subst hY
        generalize z06 z1G [x]=r at*
        unfold clE fnP z05 at hlkp
        unfold nv at*
        simp only[vW,seval,d1,cmV,vcC,k,hl1,hs',hlkp]
        (with_reducible apply zx);simp only[vW,seval,cmV,vcC];rfl;exact T1;rfl;simp only[vW,seval,cmV,vcC];rfl
        simp only[vW,seval,cmV,vcC]
      · have hl1 : e.l.length = 1 := by have : zp z4r = 1 := by decide
                                        omega
        obtain⟨x,rfl⟩:∃x,L=[x]:=by
          match L,hL.trans hl1 with
          |[x],_=>exact⟨x,rfl⟩
        obtain⟨t0,rfl⟩:∃t0,ps=[t0]:=by
          match ps,hpl.trans hl1 with
          |[t0],_=>exact⟨t0,rfl⟩
        obtain rfl:clE (z05 1 [2]) (fnP 113)=ym:=Option.some.inj hy
        have ht':(zG 1 [2] [t0]).2=true:=ht'
        have f0:zF x t0=true:=hPF.2 0 x t0 rfl rfl
        have k0:=z7I ht'
        have T1:zC (glE m) 113 [.bs 1000 0 1 1] [.box (vC [x])] (nv (z06 z4r [x])) [.box (vC [x])]:=zl4 m (z52 f0 k0)
        rw[if_neg (fun h=>h.elim (fun h=>by omega) fun h=>absurd h.2 (by decide))]at hY
        subst hY
        generalize z06 z4r [x]=r at*
        unfold clE fnP z05 at hlkp
        unfold nv at*
        simp only[vW,seval,d1,cmV,vcC,k,hl1,hs',hlkp]
        (with_reducible apply zx);simp only[vW,seval,cmV,vcC];rfl;exact T1;rfl;simp only[vW,seval,cmV,vcC];rfl
        simp only[vW,seval,cmV,vcC]
      · have hl1 : e.l.length = 2 := by have : zp z1v = 2 := by decide
                                        omega
        obtain⟨x,y,rfl⟩:∃x y,L=[x,y]:=by
          match L,hL.trans hl1 with
          |[x,y],_=>exact⟨x,y,rfl⟩
        obtain⟨t0,t1,rfl⟩:∃t0 t1,ps=[t0,t1]:=by
          match ps,hpl.trans hl1 with
          |[t0,t1],_=>exact⟨t0,t1,rfl⟩
        obtain rfl:clE (z05 2 [2,1]) (fnP 105)=ym:=Option.some.inj hy
        have ht':(zG 2 [2,1] [t0,t1]).2=true:=ht'
        have f0:zF x t0=true:=hPF.2 0 x t0 rfl rfl
        have f1:zF y t1=true:=hPF.2 1 y t1 rfl rfl
        obtain⟨k0,k1⟩:=z3n ht'
        have T1:zC (glE m) 105 [.bs 1000 0 2 2] [.box (vC [x,y])] (nv (z06 z1v [x,y])) [.box (vC [x,y])]:=zkZ (glE m) (z52 f0 k0)
        rw[if_neg (fun h=>h.elim (fun h=>by omega) fun h=>absurd h.2 (by decide))]at hY
        subst hY
        generalize z06 z1v [x,y]=r at*
        unfold clE fnP z05 at hlkp
        unfold nv at*
        simp only[vW,seval,d1,cmV,vcC,k,hl1,hs',hlkp]
        (with_reducible apply zx);simp only[vW,seval,cmV,vcC];rfl;exact T1;rfl;simp only[vW,seval,cmV,vcC];rfl
        simp only[vW,seval,cmV,vcC]
      · have hl1 : e.l.length = 2 := by have : zp z0X = 2 := by decide
                                        omega
        obtain⟨x,y,rfl⟩:∃x y,L=[x,y]:=by
          match L,hL.trans hl1 with
          |[x,y],_=>exact⟨x,y,rfl⟩
        obtain⟨t0,t1,rfl⟩:∃t0 t1,ps=[t0,t1]:=by
          match ps,hpl.trans hl1 with
          |[t0,t1],_=>exact⟨t0,t1,rfl⟩
        obtain rfl:clE (z05 2 [2,1]) (fnP 108)=ym:=Option.some.inj hy
        have ht':(zG 2 [2,1] [t0,t1]).2=true:=ht'
        have f0:zF x t0=true:=hPF.2 0 x t0 rfl rfl
        have f1:zF y t1=true:=hPF.2 1 y t1 rfl rfl
        obtain⟨k0,k1⟩:=z3n ht'
        have T1:zC (glE m) 108 [.bs 1000 0 2 2] [.box (vC [x,y])] (nv (z06 z0X [x,y])) [.box (vC [x,y])]:=zl0 (glE m) (z52 f0 k0) (z89 f1 k1)
        rw[if_neg (fun h=>h.elim (fun h=>by omega) fun h=>absurd h.2 (by decide))]at hY
        subst hY
        generalize z06 z0X [x,y]=r at*
        unfold clE fnP z05 at hlkp
        unfold nv at*
        simp only[vW,seval,d1,cmV,vcC,k,hl1,hs',hlkp]
        (with_reducible apply zx);simp only[vW,seval,cmV,vcC];rfl;exact T1;rfl;simp only[vW,seval,cmV,vcC];rfl
        simp only[vW,seval,cmV,vcC]
      · have hl1 : e.l.length = 2 := by have : zp z1u = 2 := by decide
                                        omega
        obtain⟨x,y,rfl⟩:∃x y,L=[x,y]:=by
          match L,hL.trans hl1 with
          |[x,y],_=>exact⟨x,y,rfl⟩
        obtain⟨t0,t1,rfl⟩:∃t0 t1,ps=[t0,t1]:=by
          match ps,hpl.trans hl1 with
          |[t0,t1],_=>exact⟨t0,t1,rfl⟩
        obtain rfl:clE (z05 2 [2,1]) (fnP 109)=ym:=Option.some.inj hy
        have ht':(zG 2 [2,1] [t0,t1]).2=true:=ht'
        have f0:zF x t0=true:=hPF.2 0 x t0 rfl rfl
        have f1:zF y t1=true:=hPF.2 1 y t1 rfl rfl
        obtain⟨k0,k1⟩:=z3n ht'
        have T1:zC (glE m) 109 [.bs 1000 0 2 2] [.box (vC [x,y])] (nv (z06 z1u [x,y])) [.box (vC [x,y])]:=zl1 (glE m) (z52 f0 k0)
        rw[if_neg (fun h=>h.elim (fun h=>by omega) fun h=>absurd h.2 (by decide))]at hY
        subst hY
        generalize z06 z1u [x,y]=r at*
        unfold clE fnP z05 at hlkp
        unfold nv at*
        simp only[vW,seval,d1,cmV,vcC,k,hl1,hs',hlkp]
        (with_reducible apply zx);simp only[vW,seval,cmV,vcC];rfl;exact T1;rfl;simp only[vW,seval,cmV,vcC];rfl
        simp only[vW,seval,cmV,vcC]
      · have hl1 : e.l.length = 2 := by have : zp z3a = 2 := by decide
                                        omega
        obtain⟨x,y,rfl⟩:∃x y,L=[x,y]:=by
          match L,hL.trans hl1 with
          |[x,y],_=>exact⟨x,y,rfl⟩
        obtain⟨t0,t1,rfl⟩:∃t0 t1,ps=[t0,t1]:=by
          match ps,hpl.trans hl1 with
          |[t0,t1],_=>exact⟨t0,t1,rfl⟩
        obtain rfl:clE (z05 1 [2,2]) (fnP 110)=ym:=Option.some.inj hy
        have ht':(zG 1 [2,2] [t0,t1]).2=true:=ht'
        have f0:zF x t0=true:=hPF.2 0 x t0 rfl rfl
        have f1:zF y t1=true:=hPF.2 1 y t1 rfl rfl
        obtain⟨k0,k1⟩:=z3n ht'
        have T1:zC (glE m) 110 [.bs 1000 0 2 2] [.box (vC [x,y])] (nv (z06 z3a [x,y])) [.box (vC [x,y])]:=zio (zl2 m (z52 f0 k0))
        rw[if_neg (fun h=>h.elim (fun h=>by omega) fun h=>absurd h.2 (by decide))]at hY
        subst hY
        generalize z06 z3a [x,y]=r at*
        unfold clE fnP z05 at hlkp
        unfold nv at*
        simp only[vW,seval,d1,cmV,vcC,k,hl1,hs',hlkp]
        (with_reducible apply zx);simp only[vW,seval,cmV,vcC];rfl;exact T1;rfl;simp only[vW,seval,cmV,vcC];rfl
        simp only[vW,seval,cmV,vcC]
      · have hl1 : e.l.length = 2 := by have : zp z4G = 2 := by decide
                                        omega
        obtain⟨x,y,rfl⟩:∃x y,L=[x,y]:=by
          match L,hL.trans hl1 with
          |[x,y],_=>exact⟨x,y,rfl⟩
        obtain⟨t0,t1,rfl⟩:∃t0 t1,ps=[t0,t1]:=by
          match ps,hpl.trans hl1 with
          |[t0,t1],_=>exact⟨t0,t1,rfl⟩
        obtain rfl:clE (z05 1 [1,1]) (fnP 117)=ym:=Option.some.inj hy
        have ht':(zG 1 [1,1] [t0,t1]).2=true:=ht'
        have f0:zF x t0=true:=hPF.2 0 x t0 rfl rfl
        have f1:zF y t1=true:=hPF.2 1 y t1 rfl rfl
        obtain⟨k0,k1⟩:=z3n ht'
        have T1:zC (glE m) 117 [.bs 1000 0 2 2] [.box (vC [x,y])] (nv (z06 z4G [x,y])) [.box (vC [x,y])]:=zl6 (glE m)
        rw[if_neg (fun h=>h.elim (fun h=>by omega) fun h=>absurd h.2 (by decide))]at hY
        subst hY
        generalize z06 z4G [x,y]=r at*
        unfold clE fnP z05 at hlkp
        unfold nv at*
        simp only[vW,seval,d1,cmV,vcC,k,hl1,hs',hlkp]
        (with_reducible apply zx);simp only[vW,seval,cmV,vcC];rfl;exact T1;rfl;simp only[vW,seval,cmV,vcC];rfl
        simp only[vW,seval,cmV,vcC]
      · have hl1 : e.l.length = 2 := by have : zp z5k = 2 := by decide
                                        omega
        obtain⟨x,y,rfl⟩:∃x y,L=[x,y]:=by
          match L,hL.trans hl1 with
          |[x,y],_=>exact⟨x,y,rfl⟩
        obtain⟨t0,t1,rfl⟩:∃t0 t1,ps=[t0,t1]:=by
          match ps,hpl.trans hl1 with
          |[t0,t1],_=>exact⟨t0,t1,rfl⟩
        obtain rfl:clE (z05 1 [1,1]) (fnP 118)=ym:=Option.some.inj hy
        have ht':(zG 1 [1,1] [t0,t1]).2=true:=ht'
        have f0:zF x t0=true:=hPF.2 0 x t0 rfl rfl
        have f1:zF y t1=true:=hPF.2 1 y t1 rfl rfl
        obtain⟨k0,k1⟩:=z3n ht'
        have T1:zC (glE m) 118 [.bs 1000 0 2 2] [.box (vC [x,y])] (nv (z06 z5k [x,y])) [.box (vC [x,y])]:=ziS (glE m)
        rw[if_neg (fun h=>h.elim (fun h=>by omega) fun h=>absurd h.2 (by decide))]at hY
        subst hY
        generalize z06 z5k [x,y]=r at*
        unfold clE fnP z05 at hlkp
        unfold nv at*
        simp only[vW,seval,d1,cmV,vcC,k,hl1,hs',hlkp]
        (with_reducible apply zx);simp only[vW,seval,cmV,vcC];rfl;exact T1;rfl;simp only[vW,seval,cmV,vcC];rfl
        simp only[vW,seval,cmV,vcC]
      · have hl1 : e.l.length = 3 := by have : zp nIf = 3 := by decide
                                        omega
        obtain⟨x,y,z,rfl⟩:∃x y z,L=[x,y,z]:=by
          match L,hL.trans hl1 with
          |[x,y,z],_=>exact⟨x,y,z,rfl⟩
        obtain rfl:clE (fnP 115) (fnP 116)=ym:=Option.some.inj hy
        have T1:zC (glE m) 116 [.bs 1000 0 3 3] [.box (vC [x,y,z])] (tv (z06 nIf [x,y,z])) [.box (vC [x,y,z])]:=zl5 (glE m)
        rw[if_pos (Or.inr ⟨k,rfl⟩)]at hY
        subst hY
        generalize z06 nIf [x,y,z]=r at*
        unfold clE fnP at hlkp
        unfold tv at*
        simp only[vW,seval,d1,cmV,vcC,k,hl1,hs',hlkp]
        (with_reducible apply zx);simp only[vW,seval,cmV,vcC];rfl;exact T1;rfl;simp only[vW,seval,cmV,vcC];rfl
        simp only[vW,seval,cmV,vcC]
theorem zqE(s:zB)(a b:V):(opV s a b).l=[]:=by
 unfold opV
 repeat' split
 all_goals rfl
theorem zo6{fs:List Fld}{vals ws:List V}{e:V}(h:¬(e.k=3∨(e.k=6∧e.s=nIf))):(z9m fs vals e ws).l=[]:=by
 rw[not_or]at h;unfold z9m;rw[if_neg h.1];split
 ·rfl
 split
 ·exact zqE _ _ _
 split
 ·rfl
 split
 ·rename_i h6;have hs:e.s≠nIf:=fun hs=>h.2 ⟨h6,hs⟩;unfold z06;simp only[if_neg hs]
  repeat' split
  all_goals rfl
 ·rfl
theorem zfq(m:Nat)(c:Cls)(vals:List V)(hv:ValsOk c vals):∀d,zg2 m c vals d
 |0=>fun e he=>by simp[okE]at he
 |d+1=>fun e he hs ht=>by
  have:=ziJ m c vals hv d (zfq m c vals hv d) e he hs ht;unfold zh5 at this;split at this
  ·exact this
  ·rename_i hne;exact this.out (z3B (zo6 hne))
end
section
open Go.Sh.Cd4 Go.Sh.Cd5
theorem zbr{e:V}(h:z0Z e=true):okE 8 e=true∧szE 8 e≤40:=by
 unfold z0Z at h
 grind
end
section
open Go.Sh.Cd6
theorem z9K:∀{fs:List Fld} {vs:List V} {k:Nat},(z2w k fs vs).2=0→∀(i:Nat) f v,fs[i]?=some f→vs[i]?=some v→zF v f.t=true
 |[],_,_,_,i,f,v,h,_=>by simp at h
 |_::_,[],_,_,i,f,v,_,h=>by simp at h
 |g::fs,u::vs,k,hk,i,f,v,hf,hv=>by
  unfold z2w at hk;split at hk
  ·rename_i h1;cases i with
   |zero=>cases hf;cases hv;exact h1
   |succ i=>exact z9K hk i f v (by simpa using hf) (by simpa using hv)
  ·cases hk
theorem zeD{all:List Fld}:∀{l:List Fld} {k:Nat},z2Z all k l=true→∀f∈l,zD f=true
 |[],_,_,f,h=>by cases h
 |g::l,k,ho,f,h=>by
  rw[z8t]at ho;simp only[Bool.and_eq_true]at ho;rcases List.mem_cons.1 h with rfl|h
  ·exact ho.1.1
  ·exact zeD ho.2 f h
theorem ziW{c:Cls}{vs:List V}(h:(check c vs).2=0):z5H c.fs vs:=by
 unfold check at h;split at h
 ·cases h
 rename_i hr;split at h
 ·cases h
 rename_i hl;have hr:zd c=true:=by simpa using hr
 unfold zd at hr;simp only[Bool.and_eq_true]at hr;refine⟨fun f hf=> ?_,by omega,z9K h⟩;have:=zeD hr.2 f hf;unfold zD at this;simp only[Bool.and_eq_true]at this;exact this.1.2
def zdD(r:Ty×Int):TV:=.tuple [tyT r.1,I r.2]
theorem zcr(m:Nat)(c:Cls)(e:V)(hc:ClsOk c)(he:ESmall e):zC (glE m) 58 [tv e,clT c] [] (zdD (z2s c e)) []:=by
 have H1:=z9w (z5M m e he);have H2:=z0y (glE m) c hc;have H3:=zdP (glE m);have H4:=fun h=>zd1 (glE m) c (.v (.slice none 0 0)) hc.len 8 e h he;unfold z2s;refine za tf_60 ?_;unfold clT zdD tyT B at*;cases h1:z0Z e
 ·rw[h1]at H1;simp only[vW,seval,cmV];refine z1y H1 ?_;rfl
 rw[h1]at H1;have H4:=H4 (zbr h1).1;rw[if_pos rfl];cases h2:zd c
 ·rw[h2]at H2;simp only[vW,seval,cmV];refine z1y H1 ?_;refine z1y H2 ?_;rfl
 rw[h2]at H2;rw[if_pos rfl];unfold tyB scp B at H4;cases h3:(zm c.fs 8 e).2
 ·rw[h3]at H4;simp only[vW,seval,cmV];refine z1y H1 ?_;refine z1y H2 ?_;refine z1y H3 ?_;refine z1y H4 ?_;rfl
 ·rw[h3]at H4;simp only[vW,seval,cmV];refine z1y H1 ?_;refine z1y H2 ?_;refine z1y H3 ?_;exact zdN H4
def zhn(r:V×Int):TV:=if r.2=0 then .tuple [tv r.1,I 0] else .tuple [nv V.nil,I r.2]
theorem zjh(m:Nat)(c:Cls)(e:V)(vals:List V)(hc:ClsOk c)(he:ESmall e)(hf:∀x∈vals,VFew x∧VOk x)(hl:vals.length≤4611686018427387904):zC (glE m) 25 [tv e,clT c,.pv (.sl 4 (V.rows vals))] [] (zhn (z4i c vals e)) []:=by
 have H1:=zcr m c e hc he;have H2:=z9w (z3Q m c vals hc (fun x hx=>⟨(hf x hx).2,by have:=(hf x hx).1.len;unfold maxLen;omega⟩) hl);have H3:=zdP (glE m);unfold z4i;refine za tf_59 ?_;unfold clT zhn zdD tyT z50 at*;obtain⟨t,ht⟩:∃t,z2s c e=t:=⟨_,rfl⟩
 obtain⟨k,hk⟩:∃k,check c vals=k:=⟨_,rfl⟩
 rw[ht]at H1 ⊢;rw[hk]at H2 ⊢;by_cases h1:t.2=0
 ·rw[if_neg (c:=t.2≠0) (by omega)];by_cases h2:k.2=0
  ·rw[if_neg (c:=k.2≠0) (by omega)];obtain⟨h3,h4⟩:z0Z e=true∧(zm c.fs 8 e).2=true:=by
    unfold z2s at ht;rw[←ht]at h1;cases h5:z0Z e
    ·rw[h5]at h1;cases h1
    ·cases h6:(zm c.fs 8 e).2
     ·rw[h5,h6]at h1;cases h7:zd c<;>rw[h7]at h1<;>cases h1
     ·exact⟨rfl,rfl⟩
   have H4:=zfq m c vals ⟨hc.len,ziW (by rw[hk];exact h2),fun v hv=>(hf v hv).1⟩ 8 e (zbr h3).1 he h4;obtain⟨r,hr⟩:∃r,z1O c.fs vals 8 e=r:=⟨_,rfl⟩
   rw[hr]at H4 ⊢;rw[if_pos rfl];unfold scp at H4;unfold tv at*;simp only[vW,seval,cmV];refine z1U H1 ?_;simp only[vW,seval,cmV,h1];refine z1U H2 ?_;simp only[vW,seval,cmV,h2];refine z1y H3 ?_;exact zdN H4
  ·rw[if_pos (c:=k.2≠0) h2,if_neg (c:=k.2=0) h2];simp only[vW,seval,cmV];refine z1U H1 ?_;simp only[vW,seval,cmV,h1];refine z1U H2 ?_;simp only[vW,seval,cmV,h2];rfl
 ·rw[if_pos (c:=t.2≠0) h1,if_neg (c:=t.2=0) h1];simp only[vW,seval,cmV];refine z1U H1 ?_;simp only[vW,seval,cmV,h1];rfl
end
end Go.Proofs.YtbkgnekfigknhaaGreatDoor
end
