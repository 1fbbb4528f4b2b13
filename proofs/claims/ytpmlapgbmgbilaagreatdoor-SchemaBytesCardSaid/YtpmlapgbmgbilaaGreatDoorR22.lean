/- Merged texts: Zg8 Zg9 Ze12 Zg10. No statement of the program is proved here. -/
import Derived.Test.YtpmlapgbmgbilaaGreatDoorR21
set_option linter.unusedSimpArgs false
set_option linter.unusedVariables false
set_option maxRecDepth 100000
set_option maxHeartbeats 8000000
section
namespace Go.Proofs.YtpmlapgbmgbilaaGreatDoor
open Go Go.RowKit Go.Mor Go.Sh Go.Sh.Cd1
section
open Go.Sh.Cd6
theorem zp8(ids:List Nat):TV.m1 ids z1x=false:=rfl
theorem zp9(ids:List Nat):TV.m2 ids z1x=false:=rfl
theorem zpa(ids:List Nat):TV.m3 ids z1x=false:=rfl
theorem zhy:TV.ids1 z1x=[]:=rfl
theorem zhz:TV.ids2 z1x=[]:=rfl
theorem zhA:TV.ids3 z1x=[]:=rfl
theorem zhB(ρ:Nat→Option Nat):TV.ren1 ρ z1x=some z1x:=rfl
theorem zhC(ρ:Nat→Option Nat):TV.ren2 ρ z1x=some z1x:=rfl
theorem zhD(ρ:Nat→Option Nat):TV.ren3 ρ z1x=some z1x:=rfl
theorem zeX:TV.cells z1x=some [z1x]:=rfl
theorem cmV:(type_of% @zp8)∧(type_of% @zp9)∧(type_of% @zpa)∧(type_of% @zhy)∧(type_of% @zhz)∧(type_of% @zhA)∧(type_of% @zhB)∧(type_of% @zhC)∧(type_of% @zhD)∧(type_of% @zeX):=⟨@zp8,@zp9,@zpa,@zhy,@zhz,@zhA,@zhB,@zhC,@zhD,@zeX⟩
section
variable{g:Sh.Glob}{f m:Nat}{dst fp:Option Nat}{xs:List Arg}{xs':List TV}{I:List Nat}{os os':List MO}{y:TV}{l:List SOper}{K:ES→Prop}{s s':ES}{G:Prop}
theorem z1m(hc:zC g f xs' os y os')(hk:zQ Tryz.prog g l K s')(hx:callIn s m xs=some (xs',os,I):=by simp only[vW,seval,cmV];rfl)(hfp:z4V fp I=true:=by rfl)(hmo:moOk os os'=true:=by first|rfl|(simp only[vcA,seval];omega))(hs:callOut s dst I y os'=some s':=by simp only[vW,seval,cmV];rfl):
  zQ Tryz.prog g (⟨dst,none,fp,.call f m xs⟩::l) K s:=zF hx hfp hc hmo hs hk
theorem z1G(hc:zC g f xs' os y os')(h:G)(hx:callIn s m xs=some (xs',os,I):=by simp only[vW,seval,cmV];rfl)(hfp:z4V fp I=true:=by rfl)(hmo:moOk os os'=true:=by first|rfl|(simp only[vcA,seval];omega))(hs:callOut s dst I y os'=some s':=by simp only[vW,seval,cmV];rfl)(hr:zQ Tryz.prog g l K s'=G:=by simp only[vW,seval,cmV];rfl):
  zQ Tryz.prog g (⟨dst,none,fp,.call f m xs⟩::l) K s:=zF hx hfp hc hmo hs (hr▸h)
theorem zeL(hc:zC g f xs' os y os')(hx:callIn s m xs=some (xs',os,I):=by simp only[vW,seval,cmV];rfl)(hfp:z4V fp I=true:=by rfl)(hmo:moOk os os'=true:=by first|rfl|(simp only[vcA,seval];omega))(hs:callOut s dst I y os'=some s':=by simp only[vW,seval,cmV];rfl)(hr:zQ Tryz.prog g l K s':=by simp only[vW,seval,cmV]):
  zQ Tryz.prog g (⟨dst,none,fp,.call f m xs⟩::l) K s:=zF hx hfp hc hmo hs hr
end
def zr8(s:zB):Option TV:=(callL.find? fun p=>p.1==s).map (·.2)
theorem zp7{s:zB}(h:0<zt s):∃y,zr8 s=some y∧zfy true (.agg #[.nilFunc,.nilFunc]) (some z1x) (some (.string (str s)))=some (y,.no):=by
 rcases z3V h with rfl|rfl|rfl|rfl|rfl|rfl|rfl|rfl|rfl|rfl<;>exact⟨_,rfl,by kernel_rfl⟩
def scp(c:Cls)(vs:PV):List TV:=[S (str c.n),.pv (.sl 4 (flR c.fs)),.pv vs,z1x]
theorem zbO{t:V→Ty×Bool}(x:V):∀(l:List V),z17 t (l++[x])=match z17 t l with|some ps=>if(t x).2 then some (ps++[(t x).1])else none|none=>none
 |[]=>by simp only[List.nil_append,z17];cases(t x).2<;>rfl
 |y::l=>by
  rw[List.cons_append,z17,z17,zbO x l];cases(t y).2
  ·rfl
  ·simp only[if_true];cases z17 t l with
   |none=>rfl
   |some ps=>cases(t x).2<;>rfl
theorem zdz{t:V→Ty×Bool}:∀{l:List V} {x:V},x∈l→(t x).2=false→z17 t l=none
 |y::l,x,hx,h=>by
  rw[z17];rcases List.mem_cons.1 hx with rfl|hx
  ·rw[h];rfl
  ·rw[zdz hx h];cases(t y).2<;>rfl
theorem zqN(L:List Ty)(k:Nat)(t:Ty)(h:k<L.length):List.take (k*2) (tyC L)++[TV.pv (.v (.int .i64 t.k)),TV.pv (.v (.int .i64 t.o))]++List.drop (k*2+2) (tyC L)=tyC (L.set k t):=by
 induction L generalizing k with
 |nil=>simp at h
 |cons p L ih=>
  cases k with
  |zero=>rfl
  |succ k=>
   have:=ih k (by simpa using h);rw[List.set_cons_succ];show List.take ((k+1)*2) (I p.k::I p.o::tyC L)++[I t.k,I t.o]++List.drop ((k+1)*2+2) (I p.k::I p.o::tyC L)=I p.k::I p.o::tyC (L.set k t);rw[show(k+1)*2=k*2+2 by omega];show I p.k::I p.o::(List.take (k*2) (tyC L)++[I t.k,I t.o]++List.drop (k*2+2) (tyC L))=_;rw[show List.take (k*2) (tyC L)++[I t.k,I t.o]++List.drop (k*2+2) (tyC L)=tyC (L.set k t) from this]
theorem zgb{α:Type}(L:List α)(i:Nat)(x:α)(h:i<L.length):(L.set i x).take (i+1)=L.take i++[x]:=by
 rw[List.take_add_one,List.take_set_of_le (Nat.le_refl _),List.getElem?_set_self h];rfl
theorem zoO(n:Nat):(List.replicate n [TV.pv (.v (.int .i64 0)),TV.pv (.v (.int .i64 0))]).flatten=tyC (List.replicate n ty0):=by
 induction n with
 |zero=>rfl
 |succ n ih=>
  rw[List.replicate_succ,List.flatten_cons,ih];rfl
def zeD(g:Sh.Glob)(c:Cls)(vs:PV)(d:Nat):Prop:=∀e,okE d e=true→ESmall e→zC g 155 [.ptr 1000 0,tv e] [.box (scp c vs)] (tyB (zm c.fs d e)) [.box (scp c vs)]
theorem zmB(g:Sh.Glob)(c:Cls)(vs:PV)(hc:c.fs.length≤4611686018427387904)(d:Nat)(IH:zeD g c vs d):zeD g c vs (d+1):=by
  intro e he hs
  obtain⟨hn,hk⟩:=z9R he
  have hl3:e.l.length≤3:=by
    rcases z4p hn with k|k|k|k|k|k
    · rw[(zjm hn k).2.2.2];simp
    · rw[(zbQ hn k).2.2];simp
    · rw[(zjn hn k).2.2];simp
    · obtain⟨_,_,a,b,h⟩:=z9M hn k;rw[h];simp
    · obtain⟨_,_,a,h⟩:=zbR hn k;rw[h];simp
    · have h1:=(z9N hn k).2.2
      have h2:=z7l e.s
      omega
  obtain⟨R,hR⟩:∃R,zm c.fs (d+1) e=R:=⟨_,rfl⟩
  rw[hR]
  unfold zm at hR
  have hKid:∀y∈e.l,zC g 155 [.ptr 1000 0,tv y] [.box (scp c vs)] (tyB (zm c.fs d y)) [.box (scp c vs)]:=fun y hy=>IH y (hk y hy) (hs.sub hy)
  unfold scp at*
  refine zj tf_22 ?_
  simp only[vW,seval,cmV,tyV,zoO]
  refine⟨⟨by omega,by unfold maxLen;omega⟩,?_⟩
  refine zk (σ:={p:Nat×List Ty // p.1≤e.l.length∧p.2.length=e.l.length∧z17 (zm c.fs d) (e.l.take p.1)=some (p.2.take p.1)})
    (fun p=>⟨[(0,.ptr 1000 0),(3,.ptr 3 0),(4,.ptr 4 0),(6,.bs 16 0 e.l.length e.l.length),(18,.pv (.sl 4 (V.rows e.l))),(19,I (e.l.length:Int)),(20,I (p.1.1:Int))],
      [(1000,[S (str c.n),.pv (.sl 4 (flR c.fs)),.pv vs,z1x]),(3,[I e.k,I e.n,S (str e.s),.pv (.sl 4 (V.rows e.l))]),(4,[I 0,I 0]),(16,tyC p.1.2)],[],[]⟩) (fun p=>e.l.length-p.1.1)
    ⟨(0,List.replicate e.l.length ty0),Nat.zero_le _,by simp,by simp[z17]⟩ ?_ ?_
  · exact lwA
  rintro⟨⟨i,L⟩,hi,hL,hT⟩
  simp only at hi hL hT
  by_cases hlt:i<e.l.length
  · have d1:(i:Int)<(e.l.length:Int):=by omega
    obtain⟨y,ey⟩:∃y,e.l[i]?=some y:=⟨_,gE hlt⟩
    have hmem:=gM ey
    have HF:=hKid y hmem
    have w1:=wS i
    have htk:e.l.take (i+1)=e.l.take i++[y]:=by rw[List.take_add_one,ey];rfl
    unfold tyB B at HF
    simp only[vW,seval,d1,ey,cmV,tyV]
    (with_reducible apply zF);simp only[vW,seval,cmV,tyV];rfl;rfl;exact HF;exact km;simp only[vW,seval,cmV,tyV];rfl
    cases h2:(zm c.fs d y).2
    · rw[zdz hmem h2]at hR
      simp only[vW,seval,cmV,tyV]
      rw[←hR];rfl
    · have hset:=zqN L i (zm c.fs d y).1 (by omega)
      simp only[vW,seval,cmV,tyV,w1,hset]
      refine⟨by omega,by omega,zc ⟨(i+1,L.set i (zm c.fs d y).1),hlt,by simp[hL],by simp only;rw[htk,zbO,hT,zgb L i _ (by omega),h2];rfl⟩ (by show e.l.length-(i+1)<e.l.length-i;omega) ?_⟩
      exact lwA
  · have d1:¬(i:Int)<(e.l.length:Int):=by omega
    obtain rfl:i=e.l.length:=by omega
    rw[List.take_length,←hL,List.take_length]at hT
    rw[hT]at hR
    simp only at hR
    unfold z2Y at hR
    rcases z4p hn with k|k|k|k|k|k
    · rw[if_neg (by omega),if_neg (by omega),if_neg (by omega),if_neg (by omega),if_neg (by omega)]at hR
      simp only[vW,seval,d1,cmV,tyV,k]
      rw[←hR]
    · rw[if_pos k]at hR
      simp only[vW,seval,d1,cmV,tyV,k]
      rw[←hR]
    · rw[if_neg (by omega),if_pos k]at hR
      have HA:=z65 g c e.s hc
      unfold z29 clT B at HA
      by_cases hf:fieldAt c.fs e.s<0
      · rw[if_pos hf]at HA hR
        simp only[vW,seval,d1,cmV,tyV,k]
        refine z1m HA ?_
        simp only[vW,seval,cmV,tyV]
        rw[←hR];rfl
      · rw[if_neg hf]at HA hR
        obtain⟨q,hq⟩:∃q:Nat,fieldAt c.fs e.s=q:=⟨(fieldAt c.fs e.s).toNat,by omega⟩
        obtain⟨f,hf1,_⟩:=z2W _ _ q hq
        rw[hq]at HA hR
        rw[Int.toNat_natCast,z7a hf1]at hR
        simp only[vW,seval,d1,cmV,tyV,k]
        refine z1m HA ?_
        simp only[vW,seval,cmV,tyV,clV,hf1]
        rw[←hR]
    · rw[if_neg (by omega),if_neg (by omega),if_pos k]at hR
      obtain⟨_,hb,a,b,hab⟩:=z9M hn k
      have hlen:L.length=2:=by rw[hL,hab];rfl
      obtain⟨p,q,rfl⟩:∃p q,L=[p,q]:=by
        match L,hlen with
        |[p,q],_=>exact⟨p,q,rfl⟩
      have HO:=zh0 g e.s
      have T1:=z1n g 1 [1,1] [p,q] rfl (by simp)
      have T2:=z1n g 2 [2,2] [p,q] rfl (by simp)
      have T3:=zob g p q
      unfold zju at HO
      unfold zet at hR
      have hl2:e.l.length=2:=by rw[hab];rfl
      by_cases h1:e.s=[43]∨e.s=[45]∨e.s=[42]∨e.s=[47]∨e.s=[37]
      · rw[if_pos h1]at HO hR
        unfold z09 at HO
        rw[hR]at T1
        simp only[vW,seval,d1,cmV,tyV,k,hl2]
        refine z1m HO ?_
        simp only[vW,seval,cmV,tyV]
        unfold tyB B at T1
        (with_reducible apply zr);simp only[vW,seval,cmV,tyV];rfl;exact T1;rfl;simp only[vW,seval,cmV,tyV];rfl
        simp only[vW,seval,cmV,tyV]
      · rw[if_neg h1]at HO hR
        by_cases h2:e.s=[38]
        · rw[if_pos h2]at HO hR
          unfold z09 at HO
          rw[hR]at T2
          simp only[vW,seval,d1,cmV,tyV,k,hl2]
          refine z1m HO ?_
          simp only[vW,seval,cmV,tyV]
          unfold tyB B at T2
          (with_reducible apply zr);simp only[vW,seval,cmV,tyV];rfl;exact T2;rfl;simp only[vW,seval,cmV,tyV];rfl
          simp only[vW,seval,cmV,tyV]
        · rw[if_neg h2]at HO hR
          have hR:((⟨1,0⟩:Ty),z1S p q)=R:=hR
          rw[hR]at T3
          simp only[vW,seval,d1,cmV,tyV,k,hl2]
          refine z1m HO ?_
          simp only[vW,seval,cmV,tyV]
          unfold tyB B at T3
          (with_reducible apply zr);simp only[vW,seval,cmV,tyV];rfl;exact T3;rfl;simp only[vW,seval,cmV,tyV];rfl
          simp only[vW,seval,cmV,tyV]
    · rw[if_neg (by omega),if_neg (by omega),if_neg (by omega),if_pos k]at hR
      obtain⟨_,hb,a,hab⟩:=zbR hn k
      have hl1:e.l.length=1:=by rw[hab];rfl
      obtain⟨p,rfl⟩:∃p,L=[p]:=by
        match L,hL.trans hl1 with
        |[p],_=>exact⟨p,rfl⟩
      have HO:=z2p g 1 [1]
      have T1:=z1n g 1 [1] [p] rfl (by simp)
      unfold z09 at HO
      rw[hR]at T1
      simp only[vW,seval,d1,cmV,tyV,k,hl1]
      (with_reducible apply zF);simp only[vW,seval,cmV,in1];rfl;rfl;exact HO;exact km;simp only[vW,seval,cmV,in1];rfl
      simp only[vW,seval,cmV,tyV]
      unfold tyB B at T1
      (with_reducible apply zr);simp only[vW,seval,cmV,tyV];rfl;exact T1;rfl;simp only[vW,seval,cmV,tyV];rfl
      simp only[vW,seval,cmV,tyV]
    · rw[if_neg (by omega),if_neg (by omega),if_neg (by omega),if_neg (by omega),if_pos k]at hR
      obtain⟨_,hb,hlk⟩:=z9N hn k
      obtain⟨y,hy,hlkp⟩:=zp7 hb
      generalize hs':e.s=s' at hb hy hlkp hlk hR
      rcases z3V hb with rfl|rfl|rfl|rfl|rfl|rfl|rfl|rfl|rfl|rfl
      · have hl1 : e.l.length = 1 := by have : zt z4J = 1 := by decide
                                        omega
        obtain⟨p,rfl⟩:∃p,L=[p]:=by
          match L,hL.trans hl1 with
          |[p],_=>exact⟨p,rfl⟩
        obtain rfl:clE (z09 1 [2]) (fnP 184)=y:=Option.some.inj hy
        have T1:=z1n g 1 [2] [p] rfl (by simp)
        rw[show zG 1 [2] [p]=R from hR]at T1
        unfold clE z09 fnP at hlkp
        unfold tyB B at T1
        simp only[vW,seval,d1,cmV,tyV,k,hl1,hs',hlkp]
        (with_reducible apply zr);simp only[vW,seval,cmV,tyV];rfl;exact T1;rfl;simp only[vW,seval,cmV,tyV];rfl
        simp only[vW,seval,cmV,tyV]
      · have hl1 : e.l.length = 1 := by have : zt z1P = 1 := by decide
                                        omega
        obtain⟨p,rfl⟩:∃p,L=[p]:=by
          match L,hL.trans hl1 with
          |[p],_=>exact⟨p,rfl⟩
        obtain rfl:clE (z09 2 [1]) (fnP 194)=y:=Option.some.inj hy
        have T1:=z1n g 2 [1] [p] rfl (by simp)
        rw[show zG 2 [1] [p]=R from hR]at T1
        unfold clE z09 fnP at hlkp
        unfold tyB B at T1
        simp only[vW,seval,d1,cmV,tyV,k,hl1,hs',hlkp]
        (with_reducible apply zr);simp only[vW,seval,cmV,tyV];rfl;exact T1;rfl;simp only[vW,seval,cmV,tyV];rfl
        simp only[vW,seval,cmV,tyV]
      · have hl1 : e.l.length = 1 := by have : zt z4K = 1 := by decide
                                        omega
        obtain⟨p,rfl⟩:∃p,L=[p]:=by
          match L,hL.trans hl1 with
          |[p],_=>exact⟨p,rfl⟩
        obtain rfl:clE (z09 1 [2]) (fnP 196)=y:=Option.some.inj hy
        have T1:=z1n g 1 [2] [p] rfl (by simp)
        rw[show zG 1 [2] [p]=R from hR]at T1
        unfold clE z09 fnP at hlkp
        unfold tyB B at T1
        simp only[vW,seval,d1,cmV,tyV,k,hl1,hs',hlkp]
        (with_reducible apply zr);simp only[vW,seval,cmV,tyV];rfl;exact T1;rfl;simp only[vW,seval,cmV,tyV];rfl
        simp only[vW,seval,cmV,tyV]
      · have hl1 : e.l.length = 2 := by have : zt z1B = 2 := by decide
                                        omega
        obtain⟨p,q,rfl⟩:∃p q,L=[p,q]:=by
          match L,hL.trans hl1 with
          |[p,q],_=>exact⟨p,q,rfl⟩
        obtain rfl:clE (z09 2 [2,1]) (fnP 187)=y:=Option.some.inj hy
        have T1:=z1n g 2 [2,1] [p,q] rfl (by simp)
        rw[show zG 2 [2,1] [p,q]=R from hR]at T1
        unfold clE z09 fnP at hlkp
        unfold tyB B at T1
        simp only[vW,seval,d1,cmV,tyV,k,hl1,hs',hlkp]
        (with_reducible apply zr);simp only[vW,seval,cmV,tyV];rfl;exact T1;rfl;simp only[vW,seval,cmV,tyV];rfl
        simp only[vW,seval,cmV,tyV]
      · have hl1 : e.l.length = 2 := by have : zt z11 = 2 := by decide
                                        omega
        obtain⟨p,q,rfl⟩:∃p q,L=[p,q]:=by
          match L,hL.trans hl1 with
          |[p,q],_=>exact⟨p,q,rfl⟩
        obtain rfl:clE (z09 2 [2,1]) (fnP 190)=y:=Option.some.inj hy
        have T1:=z1n g 2 [2,1] [p,q] rfl (by simp)
        rw[show zG 2 [2,1] [p,q]=R from hR]at T1
        unfold clE z09 fnP at hlkp
        unfold tyB B at T1
        simp only[vW,seval,d1,cmV,tyV,k,hl1,hs',hlkp]
        (with_reducible apply zr);simp only[vW,seval,cmV,tyV];rfl;exact T1;rfl;simp only[vW,seval,cmV,tyV];rfl
        simp only[vW,seval,cmV,tyV]
      · have hl1 : e.l.length = 2 := by have : zt z1A = 2 := by decide
                                        omega
        obtain⟨p,q,rfl⟩:∃p q,L=[p,q]:=by
          match L,hL.trans hl1 with
          |[p,q],_=>exact⟨p,q,rfl⟩
        obtain rfl:clE (z09 2 [2,1]) (fnP 191)=y:=Option.some.inj hy
        have T1:=z1n g 2 [2,1] [p,q] rfl (by simp)
        rw[show zG 2 [2,1] [p,q]=R from hR]at T1
        unfold clE z09 fnP at hlkp
        unfold tyB B at T1
        simp only[vW,seval,d1,cmV,tyV,k,hl1,hs',hlkp]
        (with_reducible apply zr);simp only[vW,seval,cmV,tyV];rfl;exact T1;rfl;simp only[vW,seval,cmV,tyV];rfl
        simp only[vW,seval,cmV,tyV]
      · have hl1 : e.l.length = 2 := by have : zt z3f = 2 := by decide
                                        omega
        obtain⟨p,q,rfl⟩:∃p q,L=[p,q]:=by
          match L,hL.trans hl1 with
          |[p,q],_=>exact⟨p,q,rfl⟩
        obtain rfl:clE (z09 1 [2,2]) (fnP 192)=y:=Option.some.inj hy
        have T1:=z1n g 1 [2,2] [p,q] rfl (by simp)
        rw[show zG 1 [2,2] [p,q]=R from hR]at T1
        unfold clE z09 fnP at hlkp
        unfold tyB B at T1
        simp only[vW,seval,d1,cmV,tyV,k,hl1,hs',hlkp]
        (with_reducible apply zr);simp only[vW,seval,cmV,tyV];rfl;exact T1;rfl;simp only[vW,seval,cmV,tyV];rfl
        simp only[vW,seval,cmV,tyV]
      · have hl1 : e.l.length = 2 := by have : zt z50 = 2 := by decide
                                        omega
        obtain⟨p,q,rfl⟩:∃p q,L=[p,q]:=by
          match L,hL.trans hl1 with
          |[p,q],_=>exact⟨p,q,rfl⟩
        obtain rfl:clE (z09 1 [1,1]) (fnP 200)=y:=Option.some.inj hy
        have T1:=z1n g 1 [1,1] [p,q] rfl (by simp)
        rw[show zG 1 [1,1] [p,q]=R from hR]at T1
        unfold clE z09 fnP at hlkp
        unfold tyB B at T1
        simp only[vW,seval,d1,cmV,tyV,k,hl1,hs',hlkp]
        (with_reducible apply zr);simp only[vW,seval,cmV,tyV];rfl;exact T1;rfl;simp only[vW,seval,cmV,tyV];rfl
        simp only[vW,seval,cmV,tyV]
      · have hl1 : e.l.length = 2 := by have : zt z5D = 2 := by decide
                                        omega
        obtain⟨p,q,rfl⟩:∃p q,L=[p,q]:=by
          match L,hL.trans hl1 with
          |[p,q],_=>exact⟨p,q,rfl⟩
        obtain rfl:clE (z09 1 [1,1]) (fnP 201)=y:=Option.some.inj hy
        have T1:=z1n g 1 [1,1] [p,q] rfl (by simp)
        rw[show zG 1 [1,1] [p,q]=R from hR]at T1
        unfold clE z09 fnP at hlkp
        unfold tyB B at T1
        simp only[vW,seval,d1,cmV,tyV,k,hl1,hs',hlkp]
        (with_reducible apply zr);simp only[vW,seval,cmV,tyV];rfl;exact T1;rfl;simp only[vW,seval,cmV,tyV];rfl
        simp only[vW,seval,cmV,tyV]
      · have hl1 : e.l.length = 3 := by have : zt nIf = 3 := by decide
                                        omega
        obtain⟨p,q,r,rfl⟩:∃p q r,L=[p,q,r]:=by
          match L,hL.trans hl1 with
          |[p,q,r],_=>exact⟨p,q,r,rfl⟩
        obtain rfl:clE (fnP 198) (fnP 199)=y:=Option.some.inj hy
        have T1:=zkB g p q r
        rw[show z2m [p,q,r]=R from hR]at T1
        unfold clE fnP at hlkp
        unfold tyB B at T1
        simp only[vW,seval,d1,cmV,tyV,k,hl1,hs',hlkp]
        (with_reducible apply zr);simp only[vW,seval,cmV,tyV];rfl;exact T1;rfl;simp only[vW,seval,cmV,tyV];rfl
        simp only[vW,seval,cmV,tyV]
theorem zdT(g:Sh.Glob)(c:Cls)(vs:PV)(hc:c.fs.length≤4611686018427387904):∀d,zeD g c vs d
 |0=>fun e he=>by simp[okE]at he
 |d+1=>zmB g c vs hc d (zdT g c vs hc d)
end
section
open Go.Sh.Cd6
theorem zsn(L:List V)(k:Nat)(t:V)(h:k<L.length):List.take (k*4) (vC L)++[TV.pv (.v (.int .i64 t.k)),TV.pv (.v (.int .i64 t.n)),TV.pv (.v (.string (str t.s))),TV.pv (.sl 4 (V.rows t.l))]++List.drop (k*4+4) (vC L)=vC (L.set k t):=by
 induction L generalizing k with
 |nil=>simp at h
 |cons p L ih=>
  cases k with
  |zero=>rw[List.set_cons_zero,z0Z,z0Z];rfl
  |succ k=>
   have:=ih k (by simpa using h);rw[List.set_cons_succ,z0Z,z0Z,←this,show(k+1)*4=k*4+4 by omega];rfl
def zcv:List TV:=[TV.pv (.v (.int .i64 0)),TV.pv (.v (.int .i64 0)),TV.pv (.v (.string ⟨#[]⟩)),TV.pv (.v (.slice none 0 0))]
theorem ziq:∀(n j:Nat) (c d:TV),(List.replicate n zcv).flatten[j]?=some c→(vC (List.replicate n V.nil))[j]?=some d→Wk c d
 |0,j,c,d,h,_=>by simp at h
 |n+1,j,c,d,h,h'=>by
  rw[List.replicate_succ,List.flatten_cons]at h;rw[List.replicate_succ,z0Z]at h'
  match j with
  |0=>cases h;cases h';exact .refl _
  |1=>cases h;cases h';exact .refl _
  |2=>cases h;cases h';exact .refl _
  |3=>cases h;cases h';exact z2u 4
  |j+4=>exact ziq n j c d (by simpa [zcv]using h) (by simpa using h')
theorem zio(n:Nat):List.map (fgt3 []) (List.replicate n [TV.pv (.v (.int .i64 0)),TV.pv (.v (.int .i64 0)),TV.pv (.v (.string ⟨#[]⟩)),TV.pv (.v (.slice none 0 0))]).flatten=(List.replicate n zcv).flatten:=by
 induction n with
 |zero=>rfl
 |succ n ih=>rw[List.replicate_succ,List.flatten_cons,List.map_append,ih];rfl
theorem zoW(n:Nat):(List.replicate n zcv).flatten.length=(vC (List.replicate n V.nil)).length:=by
 rw[zgu,List.length_replicate]
 induction n with
 |zero=>rfl
 |succ n ih=>rw[List.replicate_succ,List.flatten_cons,List.length_append,ih];simp[zcv];omega
def ziw(e R:V):TV:=if e.k=3∨(e.k=6∧e.s=nIf)then tv R else nv R
structure ValsOk(c:Cls)(vals:List V):Prop where
 cl:c.fs.length≤4611686018427387904
 fit:z5Z c.fs vals
 few:∀v∈vals,VFew v
def zhk(m:Nat)(c:Cls)(vals:List V)(d:Nat):Prop:=∀e,okE d e=true→ESmall e→(zm c.fs d e).2=true→zC (glE m) 156 [.ptr 1000 0,tv e] [.box (scp c (.sl 4 (V.rows vals)))] (tv (z1V c.fs vals d e)) [.box (scp c (.sl 4 (V.rows vals)))]
theorem zlt{t:V→Ty×Bool}{l:List V}{ps:List Ty}(h:z17 t l=some ps){x:V}(hx:x∈l):(t x).2=true:=by
 obtain⟨i,hi⟩:=List.getElem?_of_mem hx;exact((z7L h).2 i x hi).1
theorem zqA{s:zB}(h:zl s=true):z2J s:=by
 unfold zl at h;simp at h;exact h.1
theorem z5l{v:V}{t:Ty}(h:zJ v t=true)(hk:t.k=2):z2J v.s:=by
 have:=(z7n h hk).2.2.2;unfold zl at this;simp at this;exact this.1
theorem z8A{v:V}{t:Ty}(h:zJ v t=true)(hk:t.k=1):RgN v.n:=⟨(zfJ h hk).2.1,(zfJ h hk).2.2.1⟩
theorem ziZ{v:V}{t:Ty}(h:zJ v t=true)(hk:t.k=1∨t.k=2):VSmall v:=by
 rcases hk with hk|hk
 ·exact(zf6 (zfJ h hk).2.2.2.2).small
 ·exact(zf6 (z7n h hk).2.2.1).small
theorem z8c{k a:Int}{t:Ty}(h:(zG k [a] [t]).2=true):t.k=a:=by
 unfold zG at h;split at h
 ·rename_i h1;simpa [z2h]using h1
 ·cases h
theorem z3p{k a b:Int}{t u:Ty}(h:(zG k [a,b] [t,u]).2=true):t.k=a∧u.k=b:=by
 unfold zG at h;split at h
 ·rename_i h1;simpa [z2h]using h1
 ·cases h
theorem ziP{l:List V}{i:Nat}{y:V}{f:V→V}(h:l[i]?=some y):(l.take (i+1)).map f=(l.take i).map f++[f y]:=by rw[List.take_add_one,h];simp
theorem zkn(m:Nat)(c:Cls)(vals:List V)(hv:ValsOk c vals)(d:Nat)(IH:zhk m c vals d)(e:V)(he:okE (d+1) e=true)(hs:ESmall e)(ht:(zm c.fs (d+1) e).2=true):
    zC (glE m) 156 [.ptr 1000 0,tv e] [.box (scp c (.sl 4 (V.rows vals)))] (ziw e (z1V c.fs vals (d+1) e)) [.box (scp c (.sl 4 (V.rows vals)))]:=by
  obtain⟨hn,hk⟩:=z9R he
  have hl3:e.l.length≤3:=by
    rcases z4p hn with k|k|k|k|k|k
    · rw[(zjm hn k).2.2.2];simp
    · rw[(zbQ hn k).2.2];simp
    · rw[(zjn hn k).2.2];simp
    · obtain⟨_,_,a,b,h⟩:=z9M hn k;rw[h];simp
    · obtain⟨_,_,a,h⟩:=zbR hn k;rw[h];simp
    · have h1:=(z9N hn k).2.2
      have h2:=z7l e.s
      omega
  have ht':=ht
  unfold zm at ht'
  obtain⟨ps,hps⟩:∃ps,z17 (zm c.fs d) e.l=some ps:=by
    cases h:z17 (zm c.fs d) e.l with
    |none=>rw[h]at ht';cases ht'
    |some ps=>exact⟨ps,rfl⟩
  rw[hps]at ht'
  simp only at ht'
  obtain⟨hpl,hpa⟩:=z7L hps
  have hKid:∀y∈e.l,zC (glE m) 156 [.ptr 1000 0,tv y] [.box (scp c (.sl 4 (V.rows vals)))] (tv (z1V c.fs vals d y)) [.box (scp c (.sl 4 (V.rows vals)))]:=fun y hy=>IH y (hk y hy) (hs.sub hy) (zlt hps hy)
  have hPF:zaB (e.l.map (z1V c.fs vals d)) ps:=⟨by rw[List.length_map,hpl],fun i w t hw ht=>by
    rw[List.getElem?_map]at hw
    obtain⟨x,hx,rfl⟩:=gO hw
    obtain⟨q1,q2⟩:=hpa i x hx
    rw[ht]at q2
    have:=Option.some.inj q2
    exact z5I hv.fit d x t (hk x (gM hx)) (by rw[this,←q1])⟩
  obtain⟨Y,hY⟩:∃Y,ziw e (z1V c.fs vals (d+1) e)=Y:=⟨_,rfl⟩
  rw[hY]
  unfold z1V at hY
  unfold scp at*
  refine zj tf_23 ?_
  simp only[vW,seval,cmV,vcC]
  refine⟨⟨by omega,by unfold maxLen;omega⟩,?_⟩
  refine zk (σ:={p:Nat×List V // p.1≤e.l.length∧p.2.length=e.l.length∧(e.l.take p.1).map (z1V c.fs vals d)=p.2.take p.1})
    (fun p=>⟨[(0,.ptr 1000 0),(3,.ptr 3 0),(4,.ptr 4 0),(5,.bs 13 0 e.l.length e.l.length),(15,.pv (.sl 4 (V.rows e.l))),(16,I (e.l.length:Int)),(17,I (p.1.1:Int))],
      [(1000,[S (str c.n),.pv (.sl 4 (flR c.fs)),.pv (.sl 4 (V.rows vals)),z1x]),(3,[I e.k,I e.n,S (str e.s),.pv (.sl 4 (V.rows e.l))]),(4,[I 0,I 0,S ⟨#[]⟩,.pv (.v (.slice none 0 0))]),(13,vC p.1.2)],[],[]⟩) (fun p=>e.l.length-p.1.1)
    ⟨(0,List.replicate e.l.length V.nil),Nat.zero_le _,by simp,by simp⟩ ?_ ?_
  · refine ES.Lw.trans ?_ (zc2 (k:=13) (ds:=vC (List.replicate e.l.length V.nil)) rfl (by rw[zio];exact zoW _) (by rw[zio];exact ziq _))
    exact lwA
  rintro⟨⟨i,L⟩,hi,hL,hT⟩
  simp only at hi hL hT
  by_cases hlt:i<e.l.length
  · have d1:(i:Int)<(e.l.length:Int):=by omega
    obtain⟨y,ey⟩:∃y,e.l[i]?=some y:=⟨_,gE hlt⟩
    have hmem:=gM ey
    have HF:=hKid y hmem
    have w1:=wS i
    have hset:=zsn L i (z1V c.fs vals d y) (by omega)
    have hsn:(e.l.take (i+1)).map (z1V c.fs vals d)=(L.set i (z1V c.fs vals d y)).take (i+1):=by rw[ziP ey,hT,zgb L i _ (by omega)]
    simp only[vW,seval,d1,ey,cmV,vcC]
    (with_reducible apply zF);simp only[vW,seval,cmV,vcC];rfl;rfl;exact HF;exact km;simp only[vW,seval,cmV,vcC];rfl
    simp only[vW,seval,cmV,vcC,w1,hset]
    refine⟨by omega,by omega,zc ⟨(i+1,L.set i (z1V c.fs vals d y)),hlt,by simp[hL],hsn⟩ (by show e.l.length-(i+1)<e.l.length-i;omega) ?_⟩
    exact lwA
  · have d1:¬(i:Int)<(e.l.length:Int):=by omega
    obtain rfl:i=e.l.length:=by omega
    rw[List.take_length,←hL,List.take_length]at hT
    rw[hT]at hY hPF
    have hL3:L.length≤3:=by omega
    unfold z9O at hY
    unfold z2Y at ht'
    unfold ziw at hY
    rcases z4p hn with k|k|k|k|k|k
    · rw[if_neg (by omega),if_neg (by omega),if_neg (by omega),if_neg (by omega),if_neg (by omega),if_neg (by omega)]at hY
      have HN:=z0W (glE m) e.n
      subst hY
      generalize z0p e.n=r at*
      unfold nv at*
      simp only[vW,seval,d1,cmV,vcC,k]
      (with_reducible apply zF);simp only[vW,seval,cmV,vcC];rfl;rfl;exact HN;exact km;simp only[vW,seval,cmV,vcC];rfl
      simp only[vW,seval,cmV,vcC]
    · rw[if_neg (by omega),if_pos k]at hY
      have HN:=z5a (glE m) e.s (by have:=zqA (zbQ hn k).2.1;unfold z2J at this;omega)
      subst hY
      generalize z22 e.s=r at*
      unfold nv at*
      simp only[vW,seval,d1,cmV,vcC,k]
      (with_reducible apply zF);simp only[vW,seval,cmV,vcC];rfl;rfl;exact HN;exact km;simp only[vW,seval,cmV,vcC];rfl
      simp only[vW,seval,cmV,vcC]
    · rw[if_pos (Or.inl k),if_neg (by omega),if_pos k]at hY
      rw[if_neg (by omega),if_pos k]at ht'
      have hf:¬fieldAt c.fs e.s<0:=fun h=>by rw[if_pos h]at ht';cases ht'
      have HA:=z65 (glE m) c e.s hv.cl
      unfold z29 clT B at HA
      rw[if_neg hf]at HA
      obtain⟨f,v,h1,h2,h3,_⟩:=zf7 hv.fit hf
      obtain⟨q,hq⟩:∃q:Nat,fieldAt c.fs e.s=q:=⟨(fieldAt c.fs e.s).toNat,by omega⟩
      rw[hq]at HA hY h2
      rw[Int.toNat_natCast]at hY h2
      rw[z7a h2]at hY
      have HF:=znD (glE m) v (hv.few v (gM h2))
      subst hY
      unfold tv at*
      simp only[vW,seval,d1,cmV,vcC,k]
      (with_reducible apply zF);simp only[vW,seval,cmV,vcC];rfl;rfl;exact HA;exact km;simp only[vW,seval,cmV,vcC];rfl
      simp only[vW,seval,cmV,vcC,h2]
      (with_reducible apply zF);simp only[vW,seval,cmV,vcC];rfl;rfl;exact HF;exact km;simp only[vW,seval,cmV,vcC];rfl
      simp only[vW,seval,cmV,vcC]
    · rw[if_neg (by omega),if_neg (by omega),if_neg (by omega),if_pos k]at hY
      rw[if_neg (by omega),if_neg (by omega),if_pos k]at ht'
      obtain⟨_,hb,a,b,hab⟩:=z9M hn k
      have hlen:L.length=2:=by rw[hL,hab];rfl
      have hl2:e.l.length=2:=by rw[hab];rfl
      obtain⟨p,q,rfl⟩:∃p q,L=[p,q]:=by
        match L,hlen with
        |[p,q],_=>exact⟨p,q,rfl⟩
      obtain⟨t,u,rfl⟩:∃t u,ps=[t,u]:=by
        match ps,hpl.trans hl2 with
        |[t,u],_=>exact⟨t,u,rfl⟩
      have fp:zJ p t=true:=hPF.2 0 p t rfl rfl
      have fq:zJ q u=true:=hPF.2 1 q u rfl rfl
      have HO:zC (glE m) 204 [S (str e.s),tv p,tv q] [] (nv (opV e.s p q)) []:=by
        unfold zet at ht'
        by_cases h1:e.s=[43]∨e.s=[45]∨e.s=[42]∨e.s=[47]∨e.s=[37]
        · rw[if_pos h1]at ht'
          obtain⟨k0,k1⟩:=z3p ht'
          exact zoe (glE m) e.s (z8A fp k0) (z8A fq k1) (by rcases h1 with h|h|h|h|h<;>simp[h])
        · rw[if_neg h1]at ht'
          by_cases h2:e.s=[38]
          · rw[if_pos h2]at ht'
            obtain⟨k0,k1⟩:=z3p ht'
            rw[h2]
            exact zod (glE m) (z5l fp k0) (z5l fq k1)
          · rw[if_neg h2]at ht'
            exact zoc (glE m) e.s (ziZ fp (zd6 (show z1S t u=true from ht')).2) (by rcases zgG hb with h|h|h|h|h|h|h|h|h|h|h|h<;>simp[h]at h1 h2 ⊢)
      simp only[List.getD_cons_zero,List.getD_cons_succ]at hY
      subst hY
      generalize opV e.s p q=r at*
      unfold nv tv at*
      simp only[vW,seval,d1,cmV,vcC,k,hl2,z0Z,z3a]
      (with_reducible apply zF);simp only[vW,seval,cmV,vcC];rfl;rfl;exact HO;exact km;simp only[vW,seval,cmV,vcC];rfl
      simp only[vW,seval,cmV,vcC]
    · rw[if_neg (by omega),if_neg (by omega),if_neg (by omega),if_neg (by omega),if_pos k]at hY
      rw[if_neg (by omega),if_neg (by omega),if_neg (by omega),if_pos k]at ht'
      obtain⟨_,hb,a,hab⟩:=zbR hn k
      have hl1:e.l.length=1:=by rw[hab];rfl
      obtain⟨p,rfl⟩:∃p,L=[p]:=by
        match L,hL.trans hl1 with
        |[p],_=>exact⟨p,rfl⟩
      obtain⟨t,rfl⟩:∃t,ps=[t]:=by
        match ps,hpl.trans hl1 with
        |[t],_=>exact⟨t,rfl⟩
      have fp:zJ p t=true:=hPF.2 0 p t rfl rfl
      have rg:=z8A fp (z8c ht')
      unfold RgN at rg
      have w1:IntKind.i64.wrap (0-p.n)= -p.n:=wG
      have HN:=z0W (glE m) (-p.n)
      simp only[List.getD_cons_zero]at hY
      subst hY
      generalize z0p (-p.n)=r at*
      unfold nv at*
      simp only[vW,seval,d1,cmV,vcC,k,hl1,z0Z,z3a,w1]
      (with_reducible apply zF);simp only[vW,seval,cmV,vcC];rfl;rfl;exact HN;exact km;simp only[vW,seval,cmV,vcC];rfl
      simp only[vW,seval,cmV,vcC]
    · simp only[if_neg (show ¬e.k=2 by omega),if_neg (show ¬e.k=3 by omega),if_neg (show ¬e.k=4 by omega),if_neg (show ¬e.k=5 by omega),if_pos k]at hY
      rw[if_neg (by omega),if_neg (by omega),if_neg (by omega),if_neg (by omega),if_pos k]at ht'
      obtain⟨_,hb,hlen⟩:=z9N hn k
      obtain⟨ym,hy,hlkp⟩:=zp7 hb
      rcases z3V hb with hs'|hs'|hs'|hs'|hs'|hs'|hs'|hs'|hs'|hs'<;>rw[hs']at hY ht' hlen hy hlkp
      · have hl1 : e.l.length = 1 := by have : zt z4J = 1 := by decide
                                        omega
        obtain⟨x,rfl⟩:∃x,L=[x]:=by
          match L,hL.trans hl1 with
          |[x],_=>exact⟨x,rfl⟩
        obtain⟨t0,rfl⟩:∃t0,ps=[t0]:=by
          match ps,hpl.trans hl1 with
          |[t0],_=>exact⟨t0,rfl⟩
        obtain rfl:clE (z09 1 [2]) (fnP 184)=ym:=Option.some.inj hy
        have ht':(zG 1 [2] [t0]).2=true:=ht'
        have f0:zJ x t0=true:=hPF.2 0 x t0 rfl rfl
        have k0:=z8c ht'
        have T1:zC (glE m) 184 [.bs 1000 0 1 1] [.box (vC [x])] (nv (z0a z4J [x])) [.box (vC [x])]:=zn3 (glE m) (z5l f0 k0)
        rw[if_neg (fun h=>h.elim (fun h=>by omega) fun h=>absurd h.2 (by decide))]at hY
        subst hY
        generalize z0a z4J [x]=r at*
        unfold clE fnP z09 at hlkp
        unfold nv at*
        simp only[vW,seval,d1,cmV,vcC,k,hl1,hs',hlkp]
        (with_reducible apply zr);simp only[vW,seval,cmV,vcC];rfl;exact T1;rfl;simp only[vW,seval,cmV,vcC];rfl
        simp only[vW,seval,cmV,vcC]
      · have hl1 : e.l.length = 1 := by have : zt z1P = 1 := by decide
                                        omega
        obtain⟨x,rfl⟩:∃x,L=[x]:=by
          match L,hL.trans hl1 with
          |[x],_=>exact⟨x,rfl⟩
        obtain⟨t0,rfl⟩:∃t0,ps=[t0]:=by
          match ps,hpl.trans hl1 with
          |[t0],_=>exact⟨t0,rfl⟩
        obtain rfl:clE (z09 2 [1]) (fnP 194)=ym:=Option.some.inj hy
        have ht':(zG 2 [1] [t0]).2=true:=ht'
        have f0:zJ x t0=true:=hPF.2 0 x t0 rfl rfl
        have k0:=z8c ht'
        have T1:zC (glE m) 194 [.bs 1000 0 1 1] [.box (vC [x])] (nv (z0a z1P [x])) [.box (vC [x])]:=zk6 (zn8 m (z8A f0 k0))
        rw[if_neg (fun h=>h.elim (fun h=>by omega) fun h=>absurd h.2 (by decide))]at hY
        subst hY
        generalize z0a z1P [x]=r at*
        unfold clE fnP z09 at hlkp
        unfold nv at*
        simp only[vW,seval,d1,cmV,vcC,k,hl1,hs',hlkp]
        (with_reducible apply zr);simp only[vW,seval,cmV,vcC];rfl;exact T1;rfl;simp only[vW,seval,cmV,vcC];rfl
        simp only[vW,seval,cmV,vcC]
      · have hl1 : e.l.length = 1 := by have : zt z4K = 1 := by decide
                                        omega
        obtain⟨x,rfl⟩:∃x,L=[x]:=by
          match L,hL.trans hl1 with
          |[x],_=>exact⟨x,rfl⟩
        obtain⟨t0,rfl⟩:∃t0,ps=[t0]:=by
          match ps,hpl.trans hl1 with
          |[t0],_=>exact⟨t0,rfl⟩
        obtain rfl:clE (z09 1 [2]) (fnP 196)=ym:=Option.some.inj hy
        have ht':(zG 1 [2] [t0]).2=true:=ht'
        have f0:zJ x t0=true:=hPF.2 0 x t0 rfl rfl
        have k0:=z8c ht'
        have T1:zC (glE m) 196 [.bs 1000 0 1 1] [.box (vC [x])] (nv (z0a z4K [x])) [.box (vC [x])]:=zn9 m (z5l f0 k0)
        rw[if_neg (fun h=>h.elim (fun h=>by omega) fun h=>absurd h.2 (by decide))]at hY
        subst hY
        generalize z0a z4K [x]=r at*
        unfold clE fnP z09 at hlkp
        unfold nv at*
        simp only[vW,seval,d1,cmV,vcC,k,hl1,hs',hlkp]
        (with_reducible apply zr);simp only[vW,seval,cmV,vcC];rfl;exact T1;rfl;simp only[vW,seval,cmV,vcC];rfl
        simp only[vW,seval,cmV,vcC]
      · have hl1 : e.l.length = 2 := by have : zt z1B = 2 := by decide
                                        omega
        obtain⟨x,y,rfl⟩:∃x y,L=[x,y]:=by
          match L,hL.trans hl1 with
          |[x,y],_=>exact⟨x,y,rfl⟩
        obtain⟨t0,t1,rfl⟩:∃t0 t1,ps=[t0,t1]:=by
          match ps,hpl.trans hl1 with
          |[t0,t1],_=>exact⟨t0,t1,rfl⟩
        obtain rfl:clE (z09 2 [2,1]) (fnP 187)=ym:=Option.some.inj hy
        have ht':(zG 2 [2,1] [t0,t1]).2=true:=ht'
        have f0:zJ x t0=true:=hPF.2 0 x t0 rfl rfl
        have f1:zJ y t1=true:=hPF.2 1 y t1 rfl rfl
        obtain⟨k0,k1⟩:=z3p ht'
        have T1:zC (glE m) 187 [.bs 1000 0 2 2] [.box (vC [x,y])] (nv (z0a z1B [x,y])) [.box (vC [x,y])]:=zn4 (glE m) (z5l f0 k0)
        rw[if_neg (fun h=>h.elim (fun h=>by omega) fun h=>absurd h.2 (by decide))]at hY
        subst hY
        generalize z0a z1B [x,y]=r at*
        unfold clE fnP z09 at hlkp
        unfold nv at*
        simp only[vW,seval,d1,cmV,vcC,k,hl1,hs',hlkp]
        (with_reducible apply zr);simp only[vW,seval,cmV,vcC];rfl;exact T1;rfl;simp only[vW,seval,cmV,vcC];rfl
        simp only[vW,seval,cmV,vcC]
      · have hl1 : e.l.length = 2 := by have : zt z11 = 2 := by decide
                                        omega
        obtain⟨x,y,rfl⟩:∃x y,L=[x,y]:=by
          match L,hL.trans hl1 with
          |[x,y],_=>exact⟨x,y,rfl⟩
        obtain⟨t0,t1,rfl⟩:∃t0 t1,ps=[t0,t1]:=by
          match ps,hpl.trans hl1 with
          |[t0,t1],_=>exact⟨t0,t1,rfl⟩
        obtain rfl:clE (z09 2 [2,1]) (fnP 190)=ym:=Option.some.inj hy
        have ht':(zG 2 [2,1] [t0,t1]).2=true:=ht'
        have f0:zJ x t0=true:=hPF.2 0 x t0 rfl rfl
        have f1:zJ y t1=true:=hPF.2 1 y t1 rfl rfl
        obtain⟨k0,k1⟩:=z3p ht'
        have T1:zC (glE m) 190 [.bs 1000 0 2 2] [.box (vC [x,y])] (nv (z0a z11 [x,y])) [.box (vC [x,y])]:=zn5 (glE m) (z5l f0 k0) (z8A f1 k1)
        rw[if_neg (fun h=>h.elim (fun h=>by omega) fun h=>absurd h.2 (by decide))]at hY
        subst hY
        generalize z0a z11 [x,y]=r at*
        unfold clE fnP z09 at hlkp
        unfold nv at*
        simp only[vW,seval,d1,cmV,vcC,k,hl1,hs',hlkp]
        (with_reducible apply zr);simp only[vW,seval,cmV,vcC];rfl;exact T1;rfl;simp only[vW,seval,cmV,vcC];rfl
        simp only[vW,seval,cmV,vcC]
      · have hl1 : e.l.length = 2 := by have : zt z1A = 2 := by decide
                                        omega
        obtain⟨x,y,rfl⟩:∃x y,L=[x,y]:=by
          match L,hL.trans hl1 with
          |[x,y],_=>exact⟨x,y,rfl⟩
        obtain⟨t0,t1,rfl⟩:∃t0 t1,ps=[t0,t1]:=by
          match ps,hpl.trans hl1 with
          |[t0,t1],_=>exact⟨t0,t1,rfl⟩
        obtain rfl:clE (z09 2 [2,1]) (fnP 191)=ym:=Option.some.inj hy
        have ht':(zG 2 [2,1] [t0,t1]).2=true:=ht'
        have f0:zJ x t0=true:=hPF.2 0 x t0 rfl rfl
        have f1:zJ y t1=true:=hPF.2 1 y t1 rfl rfl
        obtain⟨k0,k1⟩:=z3p ht'
        have T1:zC (glE m) 191 [.bs 1000 0 2 2] [.box (vC [x,y])] (nv (z0a z1A [x,y])) [.box (vC [x,y])]:=zn6 (glE m) (z5l f0 k0)
        rw[if_neg (fun h=>h.elim (fun h=>by omega) fun h=>absurd h.2 (by decide))]at hY
        subst hY
        generalize z0a z1A [x,y]=r at*
        unfold clE fnP z09 at hlkp
        unfold nv at*
        simp only[vW,seval,d1,cmV,vcC,k,hl1,hs',hlkp]
        (with_reducible apply zr);simp only[vW,seval,cmV,vcC];rfl;exact T1;rfl;simp only[vW,seval,cmV,vcC];rfl
        simp only[vW,seval,cmV,vcC]
      · have hl1 : e.l.length = 2 := by have : zt z3f = 2 := by decide
                                        omega
        obtain⟨x,y,rfl⟩:∃x y,L=[x,y]:=by
          match L,hL.trans hl1 with
          |[x,y],_=>exact⟨x,y,rfl⟩
        obtain⟨t0,t1,rfl⟩:∃t0 t1,ps=[t0,t1]:=by
          match ps,hpl.trans hl1 with
          |[t0,t1],_=>exact⟨t0,t1,rfl⟩
        obtain rfl:clE (z09 1 [2,2]) (fnP 192)=ym:=Option.some.inj hy
        have ht':(zG 1 [2,2] [t0,t1]).2=true:=ht'
        have f0:zJ x t0=true:=hPF.2 0 x t0 rfl rfl
        have f1:zJ y t1=true:=hPF.2 1 y t1 rfl rfl
        obtain⟨k0,k1⟩:=z3p ht'
        have T1:zC (glE m) 192 [.bs 1000 0 2 2] [.box (vC [x,y])] (nv (z0a z3f [x,y])) [.box (vC [x,y])]:=zk6 (zn7 m (z5l f0 k0))
        rw[if_neg (fun h=>h.elim (fun h=>by omega) fun h=>absurd h.2 (by decide))]at hY
        subst hY
        generalize z0a z3f [x,y]=r at*
        unfold clE fnP z09 at hlkp
        unfold nv at*
        simp only[vW,seval,d1,cmV,vcC,k,hl1,hs',hlkp]
        (with_reducible apply zr);simp only[vW,seval,cmV,vcC];rfl;exact T1;rfl;simp only[vW,seval,cmV,vcC];rfl
        simp only[vW,seval,cmV,vcC]
      · have hl1 : e.l.length = 2 := by have : zt z50 = 2 := by decide
                                        omega
        obtain⟨x,y,rfl⟩:∃x y,L=[x,y]:=by
          match L,hL.trans hl1 with
          |[x,y],_=>exact⟨x,y,rfl⟩
        obtain⟨t0,t1,rfl⟩:∃t0 t1,ps=[t0,t1]:=by
          match ps,hpl.trans hl1 with
          |[t0,t1],_=>exact⟨t0,t1,rfl⟩
        obtain rfl:clE (z09 1 [1,1]) (fnP 200)=ym:=Option.some.inj hy
        have ht':(zG 1 [1,1] [t0,t1]).2=true:=ht'
        have f0:zJ x t0=true:=hPF.2 0 x t0 rfl rfl
        have f1:zJ y t1=true:=hPF.2 1 y t1 rfl rfl
        obtain⟨k0,k1⟩:=z3p ht'
        have T1:zC (glE m) 200 [.bs 1000 0 2 2] [.box (vC [x,y])] (nv (z0a z50 [x,y])) [.box (vC [x,y])]:=znb (glE m)
        rw[if_neg (fun h=>h.elim (fun h=>by omega) fun h=>absurd h.2 (by decide))]at hY
        subst hY
        generalize z0a z50 [x,y]=r at*
        unfold clE fnP z09 at hlkp
        unfold nv at*
        simp only[vW,seval,d1,cmV,vcC,k,hl1,hs',hlkp]
        (with_reducible apply zr);simp only[vW,seval,cmV,vcC];rfl;exact T1;rfl;simp only[vW,seval,cmV,vcC];rfl
        simp only[vW,seval,cmV,vcC]
      · have hl1 : e.l.length = 2 := by have : zt z5D = 2 := by decide
                                        omega
        obtain⟨x,y,rfl⟩:∃x y,L=[x,y]:=by
          match L,hL.trans hl1 with
          |[x,y],_=>exact⟨x,y,rfl⟩
        obtain⟨t0,t1,rfl⟩:∃t0 t1,ps=[t0,t1]:=by
          match ps,hpl.trans hl1 with
          |[t0,t1],_=>exact⟨t0,t1,rfl⟩
        obtain rfl:clE (z09 1 [1,1]) (fnP 201)=ym:=Option.some.inj hy
        have ht':(zG 1 [1,1] [t0,t1]).2=true:=ht'
        have f0:zJ x t0=true:=hPF.2 0 x t0 rfl rfl
        have f1:zJ y t1=true:=hPF.2 1 y t1 rfl rfl
        obtain⟨k0,k1⟩:=z3p ht'
        have T1:zC (glE m) 201 [.bs 1000 0 2 2] [.box (vC [x,y])] (nv (z0a z5D [x,y])) [.box (vC [x,y])]:=zkw (glE m)
        rw[if_neg (fun h=>h.elim (fun h=>by omega) fun h=>absurd h.2 (by decide))]at hY
        subst hY
        generalize z0a z5D [x,y]=r at*
        unfold clE fnP z09 at hlkp
        unfold nv at*
        simp only[vW,seval,d1,cmV,vcC,k,hl1,hs',hlkp]
        (with_reducible apply zr);simp only[vW,seval,cmV,vcC];rfl;exact T1;rfl;simp only[vW,seval,cmV,vcC];rfl
        simp only[vW,seval,cmV,vcC]
      · have hl1 : e.l.length = 3 := by have : zt nIf = 3 := by decide
                                        omega
        obtain⟨x,y,z,rfl⟩:∃x y z,L=[x,y,z]:=by
          match L,hL.trans hl1 with
          |[x,y,z],_=>exact⟨x,y,z,rfl⟩
        obtain rfl:clE (fnP 198) (fnP 199)=ym:=Option.some.inj hy
        have T1:zC (glE m) 199 [.bs 1000 0 3 3] [.box (vC [x,y,z])] (tv (z0a nIf [x,y,z])) [.box (vC [x,y,z])]:=zna (glE m)
        rw[if_pos (Or.inr ⟨k,rfl⟩)]at hY
        subst hY
        generalize z0a nIf [x,y,z]=r at*
        unfold clE fnP at hlkp
        unfold tv at*
        simp only[vW,seval,d1,cmV,vcC,k,hl1,hs',hlkp]
        (with_reducible apply zr);simp only[vW,seval,cmV,vcC];rfl;exact T1;rfl;simp only[vW,seval,cmV,vcC];rfl
        simp only[vW,seval,cmV,vcC]
theorem zt1(s:zB)(a b:V):(opV s a b).l=[]:=by
 unfold opV
 repeat' split
 all_goals rfl
theorem zqc{fs:List Fld}{vals ws:List V}{e:V}(h:¬(e.k=3∨(e.k=6∧e.s=nIf))):(z9O fs vals e ws).l=[]:=by
 rw[not_or]at h;unfold z9O;rw[if_neg h.1];split
 ·rfl
 split
 ·exact zt1 _ _ _
 split
 ·rfl
 split
 ·rename_i h6;have hs:e.s≠nIf:=fun hs=>h.2 ⟨h6,hs⟩;unfold z0a;simp only[if_neg hs]
  repeat' split
  all_goals rfl
 ·rfl
theorem zgA(m:Nat)(c:Cls)(vals:List V)(hv:ValsOk c vals):∀d,zhk m c vals d
 |0=>fun e he=>by simp[okE]at he
 |d+1=>fun e he hs ht=>by
  have:=zkn m c vals hv d (zgA m c vals hv d) e he hs ht;unfold ziw at this;split at this
  ·exact this
  ·rename_i hne;exact this.out (z4L (zqc hne))
end
section
open Go.Sh.Cd4 Go.Sh.Cd5
theorem zc8{e:V}(h:z15 e=true):okE 8 e=true∧szE 8 e≤40:=by
 unfold z15 at h
 grind
end
section
open Go.Sh.Cd6
theorem zag:∀{fs:List Fld} {vs:List V} {k:Nat},(z2L k fs vs).2=0→∀(i:Nat) f v,fs[i]?=some f→vs[i]?=some v→zJ v f.t=true
 |[],_,_,_,i,f,v,h,_=>by simp at h
 |_::_,[],_,_,i,f,v,_,h=>by simp at h
 |g::fs,u::vs,k,hk,i,f,v,hf,hv=>by
  unfold z2L at hk;split at hk
  ·rename_i h1;cases i with
   |zero=>cases hf;cases hv;exact h1
   |succ i=>exact zag hk i f v (by simpa using hf) (by simpa using hv)
  ·cases hk
theorem zfL{all:List Fld}:∀{l:List Fld} {k:Nat},z36 all k l=true→∀f∈l,zD f=true
 |[],_,_,f,h=>by cases h
 |g::l,k,ho,f,h=>by
  rw[z8S]at ho;simp only[Bool.and_eq_true]at ho;rcases List.mem_cons.1 h with rfl|h
  ·exact ho.1.1
  ·exact zfL ho.2 f h
theorem zkA{c:Cls}{vs:List V}(h:(check c vs).2=0):z5Z c.fs vs:=by
 unfold check at h;split at h
 ·cases h
 rename_i hr;split at h
 ·cases h
 rename_i hl;have hr:zd c=true:=by simpa using hr
 unfold zd at hr;simp only[Bool.and_eq_true]at hr;refine⟨fun f hf=> ?_,by omega,zag h⟩;have:=zfL hr.2 f hf;unfold zD at this;simp only[Bool.and_eq_true]at this;exact this.1.2
def zeA(r:Ty×Int):TV:=.tuple [tyT r.1,I r.2]
theorem zdk(m:Nat)(c:Cls)(e:V)(hc:ClsOk c)(he:ESmall e):zC (glE m) 114 [tv e,clT c] [] (zeA (z2H c e)) []:=by
 have H1:=zch (z64 m e he);have H2:=z0k (glE m) c hc;have H3:=zeN (glE m);have H4:=fun h=>zdT (glE m) c (.v (.slice none 0 0)) hc.len 8 e h he;unfold z2H;refine za tf_71 ?_;unfold clT zeA tyT B at*;cases h1:z15 e
 ·rw[h1]at H1;simp only[vW,seval,cmV];refine z1G H1 ?_;rfl
 rw[h1]at H1;have H4:=H4 (zc8 h1).1;rw[if_pos rfl];cases h2:zd c
 ·rw[h2]at H2;simp only[vW,seval,cmV];refine z1G H1 ?_;refine z1G H2 ?_;rfl
 rw[h2]at H2;rw[if_pos rfl];unfold tyB scp B at H4;cases h3:(zm c.fs 8 e).2
 ·rw[h3]at H4;simp only[vW,seval,cmV];refine z1G H1 ?_;refine z1G H2 ?_;refine z1G H3 ?_;refine z1G H4 ?_;rfl
 ·rw[h3]at H4;simp only[vW,seval,cmV];refine z1G H1 ?_;refine z1G H2 ?_;refine z1G H3 ?_;exact zeL H4
def ziW(r:V×Int):TV:=if r.2=0 then .tuple [tv r.1,I 0] else .tuple [nv V.nil,I r.2]
theorem zkZ(m:Nat)(c:Cls)(e:V)(vals:List V)(hc:ClsOk c)(he:ESmall e)(hf:∀x∈vals,VFew x∧VOk x)(hl:vals.length≤4611686018427387904):zC (glE m) 116 [tv e,clT c,.pv (.sl 4 (V.rows vals))] [] (ziW (z4A c vals e)) []:=by
 have H1:=zdk m c e hc he;have H2:=zch (z5y m c vals hc (fun x hx=>⟨(hf x hx).2,by have:=(hf x hx).1.len;unfold maxLen;omega⟩) hl);have H3:=zeN (glE m);unfold z4A;refine za tf_70 ?_;unfold clT ziW zeA tyT z62 at*;obtain⟨t,ht⟩:∃t,z2H c e=t:=⟨_,rfl⟩
 obtain⟨k,hk⟩:∃k,check c vals=k:=⟨_,rfl⟩
 rw[ht]at H1 ⊢;rw[hk]at H2 ⊢;by_cases h1:t.2=0
 ·rw[if_neg (c:=t.2≠0) (by omega)];by_cases h2:k.2=0
  ·rw[if_neg (c:=k.2≠0) (by omega)];obtain⟨h3,h4⟩:z15 e=true∧(zm c.fs 8 e).2=true:=by
    unfold z2H at ht;rw[←ht]at h1;cases h5:z15 e
    ·rw[h5]at h1;cases h1
    ·cases h6:(zm c.fs 8 e).2
     ·rw[h5,h6]at h1;cases h7:zd c<;>rw[h7]at h1<;>cases h1
     ·exact⟨rfl,rfl⟩
   have H4:=zgA m c vals ⟨hc.len,zkA (by rw[hk];exact h2),fun v hv=>(hf v hv).1⟩ 8 e (zc8 h3).1 he h4;obtain⟨r,hr⟩:∃r,z1V c.fs vals 8 e=r:=⟨_,rfl⟩
   rw[hr]at H4 ⊢;rw[if_pos rfl];unfold scp at H4;unfold tv at*;simp only[vW,seval,cmV];refine z1m H1 ?_;simp only[vW,seval,cmV,h1];refine z1m H2 ?_;simp only[vW,seval,cmV,h2];refine z1G H3 ?_;exact zeL H4
  ·rw[if_pos (c:=k.2≠0) h2,if_neg (c:=k.2=0) h2];simp only[vW,seval,cmV];refine z1m H1 ?_;simp only[vW,seval,cmV,h1];refine z1m H2 ?_;simp only[vW,seval,cmV,h2];rfl
 ·rw[if_pos (c:=t.2≠0) h1,if_neg (c:=t.2=0) h1];simp only[vW,seval,cmV];refine z1m H1 ?_;simp only[vW,seval,cmV,h1];rfl
end
end Go.Proofs.YtpmlapgbmgbilaaGreatDoor
end
