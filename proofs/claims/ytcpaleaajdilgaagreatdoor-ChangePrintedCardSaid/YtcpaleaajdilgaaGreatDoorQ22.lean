/- Merged texts: Zg8 Zg9 Rp1. No statement of the program is proved here. -/
import Derived.Test.YtcpaleaajdilgaaGreatDoorQ18
import Derived.Test.YtcpaleaajdilgaaGreatDoorQ21
import Derived.Lib.Replace
set_option linter.unusedSimpArgs false
set_option linter.unusedVariables false
set_option maxRecDepth 100000
set_option maxHeartbeats 8000000
section
namespace Go.Proofs.YtcpaleaajdilgaaGreatDoor
open Go Go.Mor
section
open Go.RowKit Go.Sh Go.Sh.Cd1 Go.Sh.Cd6
theorem zmT(ids:List Nat):TV.m1 ids z1o=false:=rfl
theorem zmU(ids:List Nat):TV.m2 ids z1o=false:=rfl
theorem zmV(ids:List Nat):TV.m3 ids z1o=false:=rfl
theorem zgb:TV.ids1 z1o=[]:=rfl
theorem zgc:TV.ids2 z1o=[]:=rfl
theorem zgd:TV.ids3 z1o=[]:=rfl
theorem zge(ρ:Nat→Option Nat):TV.ren1 ρ z1o=some z1o:=rfl
theorem zgf(ρ:Nat→Option Nat):TV.ren2 ρ z1o=some z1o:=rfl
theorem zgg(ρ:Nat→Option Nat):TV.ren3 ρ z1o=some z1o:=rfl
theorem zdR:TV.cells z1o=some [z1o]:=rfl
theorem cmV:(type_of% @zmT)∧(type_of% @zmU)∧(type_of% @zmV)∧(type_of% @zgb)∧(type_of% @zgc)∧(type_of% @zgd)∧(type_of% @zge)∧(type_of% @zgf)∧(type_of% @zgg)∧(type_of% @zdR):=⟨@zmT,@zmU,@zmV,@zgb,@zgc,@zgd,@zge,@zgf,@zgg,@zdR⟩
section
variable{g:Sh.Glob}{f m:Nat}{dst fp:Option Nat}{xs:List Arg}{xs':List TV}{I:List Nat}{os os':List MO}{y:TV}{l:List SOper}{K:ES→Prop}{s s':ES}{G:Prop}
theorem z1L(hc:zC g f xs' os y os')(hk:zR Tryz.prog g l K s')(hx:callIn s m xs=some (xs',os,I):=by simp only[vW,seval,cmV];rfl)(hfp:z5b fp I=true:=by rfl)(hmo:moOk os os'=true:=by first|rfl|(simp only[vcA,seval];omega))(hs:callOut s dst I y os'=some s':=by simp only[vW,seval,cmV];rfl):
  zR Tryz.prog g (⟨dst,none,fp,.call f m xs⟩::l) K s:=z05 hx hfp hc hmo hs hk
theorem z1t(hc:zC g f xs' os y os')(h:G)(hx:callIn s m xs=some (xs',os,I):=by simp only[vW,seval,cmV];rfl)(hfp:z5b fp I=true:=by rfl)(hmo:moOk os os'=true:=by first|rfl|(simp only[vcA,seval];omega))(hs:callOut s dst I y os'=some s':=by simp only[vW,seval,cmV];rfl)(hr:zR Tryz.prog g l K s'=G:=by simp only[vW,seval,cmV];rfl):
  zR Tryz.prog g (⟨dst,none,fp,.call f m xs⟩::l) K s:=z05 hx hfp hc hmo hs (hr▸h)
theorem zdJ(hc:zC g f xs' os y os')(hx:callIn s m xs=some (xs',os,I):=by simp only[vW,seval,cmV];rfl)(hfp:z5b fp I=true:=by rfl)(hmo:moOk os os'=true:=by first|rfl|(simp only[vcA,seval];omega))(hs:callOut s dst I y os'=some s':=by simp only[vW,seval,cmV];rfl)(hr:zR Tryz.prog g l K s':=by simp only[vW,seval,cmV]):
  zR Tryz.prog g (⟨dst,none,fp,.call f m xs⟩::l) K s:=z05 hx hfp hc hmo hs hr
end
def zoQ(s:zB):Option TV:=(callL.find? fun p=>p.1==s).map (·.2)
theorem zmS{s:zB}(h:0<zq s):∃y,zoQ s=some y∧zep true (.agg #[.nilFunc,.nilFunc]) (some z1o) (some (.string (str s)))=some (y,.no):=by
 rcases z3I h with rfl|rfl|rfl|rfl|rfl|rfl|rfl|rfl|rfl|rfl<;>exact⟨_,rfl,by kernel_rfl⟩
def scp(c:Cls)(vs:PV):List TV:=[S (str c.n),.pv (.sl 4 (flR c.fs)),.pv vs,z1o]
theorem zb9{t:V→Ty×Bool}(x:V):∀(l:List V),z0X t (l++[x])=match z0X t l with|some ps=>if(t x).2 then some (ps++[(t x).1])else none|none=>none
 |[]=>by simp only[List.nil_append,z0X];cases(t x).2<;>rfl
 |y::l=>by
  rw[List.cons_append,z0X,z0X,zb9 x l];cases(t y).2
  ·rfl
  ·simp only[if_true];cases z0X t l with
   |none=>rfl
   |some ps=>cases(t x).2<;>rfl
theorem zcz{t:V→Ty×Bool}:∀{l:List V} {x:V},x∈l→(t x).2=false→z0X t l=none
 |y::l,x,hx,h=>by
  rw[z0X];rcases List.mem_cons.1 hx with rfl|hx
  ·rw[h];rfl
  ·rw[zcz hx h];cases(t y).2<;>rfl
theorem zoz(L:List Ty)(k:Nat)(t:Ty)(h:k<L.length):List.take (k*2) (tyC L)++[TV.pv (.v (.int .i64 t.k)),TV.pv (.v (.int .i64 t.o))]++List.drop (k*2+2) (tyC L)=tyC (L.set k t):=by
 induction L generalizing k with
 |nil=>simp at h
 |cons p L ih=>
  cases k with
  |zero=>rfl
  |succ k=>
   have:=ih k (by simpa using h);rw[List.set_cons_succ];show List.take ((k+1)*2) (I p.k::I p.o::tyC L)++[I t.k,I t.o]++List.drop ((k+1)*2+2) (I p.k::I p.o::tyC L)=I p.k::I p.o::tyC (L.set k t);rw[show(k+1)*2=k*2+2 by omega];show I p.k::I p.o::(List.take (k*2) (tyC L)++[I t.k,I t.o]++List.drop (k*2+2) (tyC L))=_;rw[show List.take (k*2) (tyC L)++[I t.k,I t.o]++List.drop (k*2+2) (tyC L)=tyC (L.set k t) from this]
theorem zeW{α:Type}(L:List α)(i:Nat)(x:α)(h:i<L.length):(L.set i x).take (i+1)=L.take i++[x]:=by
 rw[List.take_add_one,List.take_set_of_le (Nat.le_refl _),List.getElem?_set_self h];rfl
theorem zmx(n:Nat):(List.replicate n [TV.pv (.v (.int .i64 0)),TV.pv (.v (.int .i64 0))]).flatten=tyC (List.replicate n ty0):=by
 induction n with
 |zero=>rfl
 |succ n ih=>
  rw[List.replicate_succ,List.flatten_cons,ih];rfl
def zdC(g:Sh.Glob)(c:Cls)(vs:PV)(d:Nat):Prop:=∀e,okE d e=true→ESmall e→zC g 135 [.ptr 1000 0,tv e] [.box (scp c vs)] (tyB (zl c.fs d e)) [.box (scp c vs)]
theorem zkE(g:Sh.Glob)(c:Cls)(vs:PV)(hc:c.fs.length≤4611686018427387904)(d:Nat)(IH:zdC g c vs d):zdC g c vs (d+1):=by
  intro e he hs
  obtain⟨hn,hk⟩:=z9o he
  have hl3:e.l.length≤3:=by
    rcases z3a hn with k|k|k|k|k|k
    · rw[(zbb hn k).2.2.2];simp
    · rw[(z7s hn k).2.2];simp
    · rw[(zdo hn k).2.2];simp
    · obtain⟨_,_,a,b,h⟩:=z69 hn k;rw[h];simp
    · obtain⟨_,_,a,h⟩:=z7t hn k;rw[h];simp
    · have h1:=(z6a hn k).2.2
      have h2:=z6Z e.s
      omega
  obtain⟨R,hR⟩:∃R,zl c.fs (d+1) e=R:=⟨_,rfl⟩
  rw[hR]
  unfold zl at hR
  have hKid:∀y∈e.l,zC g 135 [.ptr 1000 0,tv y] [.box (scp c vs)] (tyB (zl c.fs d y)) [.box (scp c vs)]:=fun y hy=>IH y (hk y hy) (hs.sub hy)
  unfold scp at*
  refine zp tf_20 ?_
  simp only[vW,seval,cmV,tyV,zmx]
  refine⟨⟨by omega,by unfold maxLen;omega⟩,?_⟩
  refine zw (σ:={p:Nat×List Ty // p.1≤e.l.length∧p.2.length=e.l.length∧z0X (zl c.fs d) (e.l.take p.1)=some (p.2.take p.1)})
    (fun p=>⟨[(0,.ptr 1000 0),(3,.ptr 3 0),(4,.ptr 4 0),(6,.bs 16 0 e.l.length e.l.length),(18,.pv (.sl 4 (V.rows e.l))),(19,I (e.l.length:Int)),(20,I (p.1.1:Int))],
      [(1000,[S (str c.n),.pv (.sl 4 (flR c.fs)),.pv vs,z1o]),(3,[I e.k,I e.n,S (str e.s),.pv (.sl 4 (V.rows e.l))]),(4,[I 0,I 0]),(16,tyC p.1.2)],[],[]⟩) (fun p=>e.l.length-p.1.1)
    ⟨(0,List.replicate e.l.length ty0),Nat.zero_le _,by simp,by simp[z0X]⟩ ?_ ?_
  · exact lwA
  rintro⟨⟨i,L⟩,hi,hL,hT⟩
  simp only at hi hL hT
  by_cases hlt:i<e.l.length
  · have d1:(i:Int)<(e.l.length:Int):=by omega
    obtain⟨y,ey⟩:∃y,e.l[i]?=some y:=⟨_,gE hlt⟩
    have hmem:=gM ey
    have HF:=hKid y hmem
    have w1:=wS i
    have htk:e.l.take (i+1)=e.l.take i++[y]:=by rw[List.take_add_one,ey];rfl
    unfold tyB B at HF
    simp only[vW,seval,d1,ey,cmV,tyV]
    (with_reducible apply z05);simp only[vW,seval,cmV,tyV];rfl;rfl;exact HF;exact km;simp only[vW,seval,cmV,tyV];rfl
    cases h2:(zl c.fs d y).2
    · rw[zcz hmem h2]at hR
      simp only[vW,seval,cmV,tyV]
      rw[←hR];rfl
    · have hset:=zoz L i (zl c.fs d y).1 (by omega)
      simp only[vW,seval,cmV,tyV,w1,hset]
      refine⟨by omega,by omega,zc ⟨(i+1,L.set i (zl c.fs d y).1),hlt,by simp[hL],by simp only;rw[htk,zb9,hT,zeW L i _ (by omega),h2];rfl⟩ (by show e.l.length-(i+1)<e.l.length-i;omega) ?_⟩
      exact lwA
  · have d1:¬(i:Int)<(e.l.length:Int):=by omega
    obtain rfl:i=e.l.length:=by omega
    rw[List.take_length,←hL,List.take_length]at hT
    rw[hT]at hR
    simp only at hR
    unfold z2G at hR
    rcases z3a hn with k|k|k|k|k|k
    · rw[if_neg (by omega),if_neg (by omega),if_neg (by omega),if_neg (by omega),if_neg (by omega)]at hR
      simp only[vW,seval,d1,cmV,tyV,k]
      rw[←hR]
    · rw[if_pos k]at hR
      simp only[vW,seval,d1,cmV,tyV,k]
      rw[←hR]
    · rw[if_neg (by omega),if_pos k]at hR
      have HA:=z5G g c e.s hc
      unfold z1V clT B at HA
      by_cases hf:fieldAt c.fs e.s<0
      · rw[if_pos hf]at HA hR
        simp only[vW,seval,d1,cmV,tyV,k]
        refine z1L HA ?_
        simp only[vW,seval,cmV,tyV]
        rw[←hR];rfl
      · rw[if_neg hf]at HA hR
        obtain⟨q,hq⟩:∃q:Nat,fieldAt c.fs e.s=q:=⟨(fieldAt c.fs e.s).toNat,by omega⟩
        obtain⟨f,hf1,_⟩:=z3m _ _ q hq
        rw[hq]at HA hR
        rw[Int.toNat_natCast,z6P hf1]at hR
        simp only[vW,seval,d1,cmV,tyV,k]
        refine z1L HA ?_
        simp only[vW,seval,cmV,tyV,clV,hf1]
        rw[←hR]
    · rw[if_neg (by omega),if_neg (by omega),if_pos k]at hR
      obtain⟨_,hb,a,b,hab⟩:=z69 hn k
      have hlen:L.length=2:=by rw[hL,hab];rfl
      obtain⟨p,q,rfl⟩:∃p q,L=[p,q]:=by
        match L,hlen with
        |[p,q],_=>exact⟨p,q,rfl⟩
      have HO:=zfF g e.s
      have T1:=z1d g 1 [1,1] [p,q] rfl (by simp)
      have T2:=z1d g 2 [2,2] [p,q] rfl (by simp)
      have T3:=zm0 g p q
      unfold zhQ at HO
      unfold zdq at hR
      have hl2:e.l.length=2:=by rw[hab];rfl
      by_cases h1:e.s=[43]∨e.s=[45]∨e.s=[42]∨e.s=[47]∨e.s=[37]
      · rw[if_pos h1]at HO hR
        unfold z08 at HO
        rw[hR]at T1
        simp only[vW,seval,d1,cmV,tyV,k,hl2]
        refine z1L HO ?_
        simp only[vW,seval,cmV,tyV]
        unfold tyB B at T1
        (with_reducible apply zJ);simp only[vW,seval,cmV,tyV];rfl;exact T1;rfl;simp only[vW,seval,cmV,tyV];rfl
        simp only[vW,seval,cmV,tyV]
      · rw[if_neg h1]at HO hR
        by_cases h2:e.s=[38]
        · rw[if_pos h2]at HO hR
          unfold z08 at HO
          rw[hR]at T2
          simp only[vW,seval,d1,cmV,tyV,k,hl2]
          refine z1L HO ?_
          simp only[vW,seval,cmV,tyV]
          unfold tyB B at T2
          (with_reducible apply zJ);simp only[vW,seval,cmV,tyV];rfl;exact T2;rfl;simp only[vW,seval,cmV,tyV];rfl
          simp only[vW,seval,cmV,tyV]
        · rw[if_neg h2]at HO hR
          have hR:((⟨1,0⟩:Ty),z1G p q)=R:=hR
          rw[hR]at T3
          simp only[vW,seval,d1,cmV,tyV,k,hl2]
          refine z1L HO ?_
          simp only[vW,seval,cmV,tyV]
          unfold tyB B at T3
          (with_reducible apply zJ);simp only[vW,seval,cmV,tyV];rfl;exact T3;rfl;simp only[vW,seval,cmV,tyV];rfl
          simp only[vW,seval,cmV,tyV]
    · rw[if_neg (by omega),if_neg (by omega),if_neg (by omega),if_pos k]at hR
      obtain⟨_,hb,a,hab⟩:=z7t hn k
      have hl1:e.l.length=1:=by rw[hab];rfl
      obtain⟨p,rfl⟩:∃p,L=[p]:=by
        match L,hL.trans hl1 with
        |[p],_=>exact⟨p,rfl⟩
      have HO:=z2a g 1 [1]
      have T1:=z1d g 1 [1] [p] rfl (by simp)
      unfold z08 at HO
      rw[hR]at T1
      simp only[vW,seval,d1,cmV,tyV,k,hl1]
      (with_reducible apply z05);simp only[vW,seval,cmV,in1];rfl;rfl;exact HO;exact km;simp only[vW,seval,cmV,in1];rfl
      simp only[vW,seval,cmV,tyV]
      unfold tyB B at T1
      (with_reducible apply zJ);simp only[vW,seval,cmV,tyV];rfl;exact T1;rfl;simp only[vW,seval,cmV,tyV];rfl
      simp only[vW,seval,cmV,tyV]
    · rw[if_neg (by omega),if_neg (by omega),if_neg (by omega),if_neg (by omega),if_pos k]at hR
      obtain⟨_,hb,hlk⟩:=z6a hn k
      obtain⟨y,hy,hlkp⟩:=zmS hb
      generalize hs':e.s=s' at hb hy hlkp hlk hR
      rcases z3I hb with rfl|rfl|rfl|rfl|rfl|rfl|rfl|rfl|rfl|rfl
      · have hl1 : e.l.length = 1 := by have : zq z4i = 1 := by decide
                                        omega
        obtain⟨p,rfl⟩:∃p,L=[p]:=by
          match L,hL.trans hl1 with
          |[p],_=>exact⟨p,rfl⟩
        obtain rfl:clE (z08 1 [2]) (fnP 137)=y:=Option.some.inj hy
        have T1:=z1d g 1 [2] [p] rfl (by simp)
        rw[show zE 1 [2] [p]=R from hR]at T1
        unfold clE z08 fnP at hlkp
        unfold tyB B at T1
        simp only[vW,seval,d1,cmV,tyV,k,hl1,hs',hlkp]
        (with_reducible apply zJ);simp only[vW,seval,cmV,tyV];rfl;exact T1;rfl;simp only[vW,seval,cmV,tyV];rfl
        simp only[vW,seval,cmV,tyV]
      · have hl1 : e.l.length = 1 := by have : zq z1z = 1 := by decide
                                        omega
        obtain⟨p,rfl⟩:∃p,L=[p]:=by
          match L,hL.trans hl1 with
          |[p],_=>exact⟨p,rfl⟩
        obtain rfl:clE (z08 2 [1]) (fnP 147)=y:=Option.some.inj hy
        have T1:=z1d g 2 [1] [p] rfl (by simp)
        rw[show zE 2 [1] [p]=R from hR]at T1
        unfold clE z08 fnP at hlkp
        unfold tyB B at T1
        simp only[vW,seval,d1,cmV,tyV,k,hl1,hs',hlkp]
        (with_reducible apply zJ);simp only[vW,seval,cmV,tyV];rfl;exact T1;rfl;simp only[vW,seval,cmV,tyV];rfl
        simp only[vW,seval,cmV,tyV]
      · have hl1 : e.l.length = 1 := by have : zq z4j = 1 := by decide
                                        omega
        obtain⟨p,rfl⟩:∃p,L=[p]:=by
          match L,hL.trans hl1 with
          |[p],_=>exact⟨p,rfl⟩
        obtain rfl:clE (z08 1 [2]) (fnP 148)=y:=Option.some.inj hy
        have T1:=z1d g 1 [2] [p] rfl (by simp)
        rw[show zE 1 [2] [p]=R from hR]at T1
        unfold clE z08 fnP at hlkp
        unfold tyB B at T1
        simp only[vW,seval,d1,cmV,tyV,k,hl1,hs',hlkp]
        (with_reducible apply zJ);simp only[vW,seval,cmV,tyV];rfl;exact T1;rfl;simp only[vW,seval,cmV,tyV];rfl
        simp only[vW,seval,cmV,tyV]
      · have hl1 : e.l.length = 2 := by have : zq z1r = 2 := by decide
                                        omega
        obtain⟨p,q,rfl⟩:∃p q,L=[p,q]:=by
          match L,hL.trans hl1 with
          |[p,q],_=>exact⟨p,q,rfl⟩
        obtain rfl:clE (z08 2 [2,1]) (fnP 140)=y:=Option.some.inj hy
        have T1:=z1d g 2 [2,1] [p,q] rfl (by simp)
        rw[show zE 2 [2,1] [p,q]=R from hR]at T1
        unfold clE z08 fnP at hlkp
        unfold tyB B at T1
        simp only[vW,seval,d1,cmV,tyV,k,hl1,hs',hlkp]
        (with_reducible apply zJ);simp only[vW,seval,cmV,tyV];rfl;exact T1;rfl;simp only[vW,seval,cmV,tyV];rfl
        simp only[vW,seval,cmV,tyV]
      · have hl1 : e.l.length = 2 := by have : zq z0T = 2 := by decide
                                        omega
        obtain⟨p,q,rfl⟩:∃p q,L=[p,q]:=by
          match L,hL.trans hl1 with
          |[p,q],_=>exact⟨p,q,rfl⟩
        obtain rfl:clE (z08 2 [2,1]) (fnP 143)=y:=Option.some.inj hy
        have T1:=z1d g 2 [2,1] [p,q] rfl (by simp)
        rw[show zE 2 [2,1] [p,q]=R from hR]at T1
        unfold clE z08 fnP at hlkp
        unfold tyB B at T1
        simp only[vW,seval,d1,cmV,tyV,k,hl1,hs',hlkp]
        (with_reducible apply zJ);simp only[vW,seval,cmV,tyV];rfl;exact T1;rfl;simp only[vW,seval,cmV,tyV];rfl
        simp only[vW,seval,cmV,tyV]
      · have hl1 : e.l.length = 2 := by have : zq z1q = 2 := by decide
                                        omega
        obtain⟨p,q,rfl⟩:∃p q,L=[p,q]:=by
          match L,hL.trans hl1 with
          |[p,q],_=>exact⟨p,q,rfl⟩
        obtain rfl:clE (z08 2 [2,1]) (fnP 144)=y:=Option.some.inj hy
        have T1:=z1d g 2 [2,1] [p,q] rfl (by simp)
        rw[show zE 2 [2,1] [p,q]=R from hR]at T1
        unfold clE z08 fnP at hlkp
        unfold tyB B at T1
        simp only[vW,seval,d1,cmV,tyV,k,hl1,hs',hlkp]
        (with_reducible apply zJ);simp only[vW,seval,cmV,tyV];rfl;exact T1;rfl;simp only[vW,seval,cmV,tyV];rfl
        simp only[vW,seval,cmV,tyV]
      · have hl1 : e.l.length = 2 := by have : zq z34 = 2 := by decide
                                        omega
        obtain⟨p,q,rfl⟩:∃p q,L=[p,q]:=by
          match L,hL.trans hl1 with
          |[p,q],_=>exact⟨p,q,rfl⟩
        obtain rfl:clE (z08 1 [2,2]) (fnP 145)=y:=Option.some.inj hy
        have T1:=z1d g 1 [2,2] [p,q] rfl (by simp)
        rw[show zE 1 [2,2] [p,q]=R from hR]at T1
        unfold clE z08 fnP at hlkp
        unfold tyB B at T1
        simp only[vW,seval,d1,cmV,tyV,k,hl1,hs',hlkp]
        (with_reducible apply zJ);simp only[vW,seval,cmV,tyV];rfl;exact T1;rfl;simp only[vW,seval,cmV,tyV];rfl
        simp only[vW,seval,cmV,tyV]
      · have hl1 : e.l.length = 2 := by have : zq z4z = 2 := by decide
                                        omega
        obtain⟨p,q,rfl⟩:∃p q,L=[p,q]:=by
          match L,hL.trans hl1 with
          |[p,q],_=>exact⟨p,q,rfl⟩
        obtain rfl:clE (z08 1 [1,1]) (fnP 152)=y:=Option.some.inj hy
        have T1:=z1d g 1 [1,1] [p,q] rfl (by simp)
        rw[show zE 1 [1,1] [p,q]=R from hR]at T1
        unfold clE z08 fnP at hlkp
        unfold tyB B at T1
        simp only[vW,seval,d1,cmV,tyV,k,hl1,hs',hlkp]
        (with_reducible apply zJ);simp only[vW,seval,cmV,tyV];rfl;exact T1;rfl;simp only[vW,seval,cmV,tyV];rfl
        simp only[vW,seval,cmV,tyV]
      · have hl1 : e.l.length = 2 := by have : zq z5e = 2 := by decide
                                        omega
        obtain⟨p,q,rfl⟩:∃p q,L=[p,q]:=by
          match L,hL.trans hl1 with
          |[p,q],_=>exact⟨p,q,rfl⟩
        obtain rfl:clE (z08 1 [1,1]) (fnP 153)=y:=Option.some.inj hy
        have T1:=z1d g 1 [1,1] [p,q] rfl (by simp)
        rw[show zE 1 [1,1] [p,q]=R from hR]at T1
        unfold clE z08 fnP at hlkp
        unfold tyB B at T1
        simp only[vW,seval,d1,cmV,tyV,k,hl1,hs',hlkp]
        (with_reducible apply zJ);simp only[vW,seval,cmV,tyV];rfl;exact T1;rfl;simp only[vW,seval,cmV,tyV];rfl
        simp only[vW,seval,cmV,tyV]
      · have hl1 : e.l.length = 3 := by have : zq nIf = 3 := by decide
                                        omega
        obtain⟨p,q,r,rfl⟩:∃p q r,L=[p,q,r]:=by
          match L,hL.trans hl1 with
          |[p,q,r],_=>exact⟨p,q,r,rfl⟩
        obtain rfl:clE (fnP 150) (fnP 151)=y:=Option.some.inj hy
        have T1:=ziT g p q r
        rw[show z27 [p,q,r]=R from hR]at T1
        unfold clE fnP at hlkp
        unfold tyB B at T1
        simp only[vW,seval,d1,cmV,tyV,k,hl1,hs',hlkp]
        (with_reducible apply zJ);simp only[vW,seval,cmV,tyV];rfl;exact T1;rfl;simp only[vW,seval,cmV,tyV];rfl
        simp only[vW,seval,cmV,tyV]
theorem zcU(g:Sh.Glob)(c:Cls)(vs:PV)(hc:c.fs.length≤4611686018427387904):∀d,zdC g c vs d
 |0=>fun e he=>by simp[okE]at he
 |d+1=>zkE g c vs hc d (zcU g c vs hc d)
end
section
open Go.RowKit Go.Sh Go.Sh.Cd1 Go.Sh.Cd6
theorem zqb(L:List V)(k:Nat)(t:V)(h:k<L.length):List.take (k*4) (vC L)++[TV.pv (.v (.int .i64 t.k)),TV.pv (.v (.int .i64 t.n)),TV.pv (.v (.string (str t.s))),TV.pv (.sl 4 (V.rows t.l))]++List.drop (k*4+4) (vC L)=vC (L.set k t):=by
 induction L generalizing k with
 |nil=>simp at h
 |cons p L ih=>
  cases k with
  |zero=>rw[List.set_cons_zero,z0S,z0S];rfl
  |succ k=>
   have:=ih k (by simpa using h);rw[List.set_cons_succ,z0S,z0S,←this,show(k+1)*4=k*4+4 by omega];rfl
def zbB:List TV:=[TV.pv (.v (.int .i64 0)),TV.pv (.v (.int .i64 0)),TV.pv (.v (.string ⟨#[]⟩)),TV.pv (.v (.slice none 0 0))]
theorem zgT:∀(n j:Nat) (c d:TV),(List.replicate n zbB).flatten[j]?=some c→(vC (List.replicate n V.nil))[j]?=some d→Wk c d
 |0,j,c,d,h,_=>by simp at h
 |n+1,j,c,d,h,h'=>by
  rw[List.replicate_succ,List.flatten_cons]at h;rw[List.replicate_succ,z0S]at h'
  match j with
  |0=>cases h;cases h';exact .refl _
  |1=>cases h;cases h';exact .refl _
  |2=>cases h;cases h';exact .refl _
  |3=>cases h;cases h';exact z56 4
  |j+4=>exact zgT n j c d (by simpa [zbB]using h) (by simpa using h')
theorem zgS(n:Nat):List.map (fgt3 []) (List.replicate n [TV.pv (.v (.int .i64 0)),TV.pv (.v (.int .i64 0)),TV.pv (.v (.string ⟨#[]⟩)),TV.pv (.v (.slice none 0 0))]).flatten=(List.replicate n zbB).flatten:=by
 induction n with
 |zero=>rfl
 |succ n ih=>rw[List.replicate_succ,List.flatten_cons,List.map_append,ih];rfl
theorem zmJ(n:Nat):(List.replicate n zbB).flatten.length=(vC (List.replicate n V.nil)).length:=by
 rw[zfe,List.length_replicate]
 induction n with
 |zero=>rfl
 |succ n ih=>rw[List.replicate_succ,List.flatten_cons,List.length_append,ih];simp[zbB];omega
def zh0(e R:V):TV:=if e.k=3∨(e.k=6∧e.s=nIf)then tv R else nv R
structure ValsOk(c:Cls)(vals:List V):Prop where
 cl:c.fs.length≤4611686018427387904
 fit:z5B c.fs vals
 few:∀v∈vals,VFew v
def zfX(m:Nat)(c:Cls)(vals:List V)(d:Nat):Prop:=∀e,okE d e=true→ESmall e→(zl c.fs d e).2=true→zC (glE m) 80 [.ptr 1000 0,tv e] [.box (scp c (.sl 4 (V.rows vals)))] (tv (z1I c.fs vals d e)) [.box (scp c (.sl 4 (V.rows vals)))]
theorem zjz{t:V→Ty×Bool}{l:List V}{ps:List Ty}(h:z0X t l=some ps){x:V}(hx:x∈l):(t x).2=true:=by
 obtain⟨i,hi⟩:=List.getElem?_of_mem hx;exact((z7m h).2 i x hi).1
theorem zoh{s:zB}(h:zh s=true):z2s s:=by
 unfold zh at h;simp at h;exact h.1
theorem z4Y{v:V}{t:Ty}(h:zD v t=true)(hk:t.k=2):z2s v.s:=by
 have:=(z73 h hk).2.2.2;unfold zh at this;simp at this;exact this.1
theorem z8c{v:V}{t:Ty}(h:zD v t=true)(hk:t.k=1):RgN v.n:=⟨(zew h hk).2.1,(zew h hk).2.2.1⟩
theorem zhr{v:V}{t:Ty}(h:zD v t=true)(hk:t.k=1∨t.k=2):VSmall v:=by
 rcases hk with hk|hk
 ·exact(zbJ (zew h hk).2.2.2.2).small
 ·exact(zbJ (z73 h hk).2.2.1).small
theorem z7N{k a:Int}{t:Ty}(h:(zE k [a] [t]).2=true):t.k=a:=by
 unfold zE at h;split at h
 ·rename_i h1;simpa [z22]using h1
 ·cases h
theorem z3f{k a b:Int}{t u:Ty}(h:(zE k [a,b] [t,u]).2=true):t.k=a∧u.k=b:=by
 unfold zE at h;split at h
 ·rename_i h1;simpa [z22]using h1
 ·cases h
theorem zhj{l:List V}{i:Nat}{y:V}{f:V→V}(h:l[i]?=some y):(l.take (i+1)).map f=(l.take i).map f++[f y]:=by rw[List.take_add_one,h];simp
theorem ziE(m:Nat)(c:Cls)(vals:List V)(hv:ValsOk c vals)(d:Nat)(IH:zfX m c vals d)(e:V)(he:okE (d+1) e=true)(hs:ESmall e)(ht:(zl c.fs (d+1) e).2=true):
    zC (glE m) 80 [.ptr 1000 0,tv e] [.box (scp c (.sl 4 (V.rows vals)))] (zh0 e (z1I c.fs vals (d+1) e)) [.box (scp c (.sl 4 (V.rows vals)))]:=by
  obtain⟨hn,hk⟩:=z9o he
  have hl3:e.l.length≤3:=by
    rcases z3a hn with k|k|k|k|k|k
    · rw[(zbb hn k).2.2.2];simp
    · rw[(z7s hn k).2.2];simp
    · rw[(zdo hn k).2.2];simp
    · obtain⟨_,_,a,b,h⟩:=z69 hn k;rw[h];simp
    · obtain⟨_,_,a,h⟩:=z7t hn k;rw[h];simp
    · have h1:=(z6a hn k).2.2
      have h2:=z6Z e.s
      omega
  have ht':=ht
  unfold zl at ht'
  obtain⟨ps,hps⟩:∃ps,z0X (zl c.fs d) e.l=some ps:=by
    cases h:z0X (zl c.fs d) e.l with
    |none=>rw[h]at ht';cases ht'
    |some ps=>exact⟨ps,rfl⟩
  rw[hps]at ht'
  simp only at ht'
  obtain⟨hpl,hpa⟩:=z7m hps
  have hKid:∀y∈e.l,zC (glE m) 80 [.ptr 1000 0,tv y] [.box (scp c (.sl 4 (V.rows vals)))] (tv (z1I c.fs vals d y)) [.box (scp c (.sl 4 (V.rows vals)))]:=fun y hy=>IH y (hk y hy) (hs.sub hy) (zjz hps hy)
  have hPF:za6 (e.l.map (z1I c.fs vals d)) ps:=⟨by rw[List.length_map,hpl],fun i w t hw ht=>by
    rw[List.getElem?_map]at hw
    obtain⟨x,hx,rfl⟩:=gO hw
    obtain⟨q1,q2⟩:=hpa i x hx
    rw[ht]at q2
    have:=Option.some.inj q2
    exact z5j hv.fit d x t (hk x (gM hx)) (by rw[this,←q1])⟩
  obtain⟨Y,hY⟩:∃Y,zh0 e (z1I c.fs vals (d+1) e)=Y:=⟨_,rfl⟩
  rw[hY]
  unfold z1I at hY
  unfold scp at*
  refine zp tf_21 ?_
  simp only[vW,seval,cmV,vcC]
  refine⟨⟨by omega,by unfold maxLen;omega⟩,?_⟩
  refine zw (σ:={p:Nat×List V // p.1≤e.l.length∧p.2.length=e.l.length∧(e.l.take p.1).map (z1I c.fs vals d)=p.2.take p.1})
    (fun p=>⟨[(0,.ptr 1000 0),(3,.ptr 3 0),(4,.ptr 4 0),(5,.bs 13 0 e.l.length e.l.length),(15,.pv (.sl 4 (V.rows e.l))),(16,I (e.l.length:Int)),(17,I (p.1.1:Int))],
      [(1000,[S (str c.n),.pv (.sl 4 (flR c.fs)),.pv (.sl 4 (V.rows vals)),z1o]),(3,[I e.k,I e.n,S (str e.s),.pv (.sl 4 (V.rows e.l))]),(4,[I 0,I 0,S ⟨#[]⟩,.pv (.v (.slice none 0 0))]),(13,vC p.1.2)],[],[]⟩) (fun p=>e.l.length-p.1.1)
    ⟨(0,List.replicate e.l.length V.nil),Nat.zero_le _,by simp,by simp⟩ ?_ ?_
  · refine ES.Lw.trans ?_ (zpP (k:=13) (ds:=vC (List.replicate e.l.length V.nil)) rfl (by rw[zgS];exact zmJ _) (by rw[zgS];exact zgT _))
    exact lwA
  rintro⟨⟨i,L⟩,hi,hL,hT⟩
  simp only at hi hL hT
  by_cases hlt:i<e.l.length
  · have d1:(i:Int)<(e.l.length:Int):=by omega
    obtain⟨y,ey⟩:∃y,e.l[i]?=some y:=⟨_,gE hlt⟩
    have hmem:=gM ey
    have HF:=hKid y hmem
    have w1:=wS i
    have hset:=zqb L i (z1I c.fs vals d y) (by omega)
    have hsn:(e.l.take (i+1)).map (z1I c.fs vals d)=(L.set i (z1I c.fs vals d y)).take (i+1):=by rw[zhj ey,hT,zeW L i _ (by omega)]
    simp only[vW,seval,d1,ey,cmV,vcC]
    (with_reducible apply z05);simp only[vW,seval,cmV,vcC];rfl;rfl;exact HF;exact km;simp only[vW,seval,cmV,vcC];rfl
    simp only[vW,seval,cmV,vcC,w1,hset]
    refine⟨by omega,by omega,zc ⟨(i+1,L.set i (z1I c.fs vals d y)),hlt,by simp[hL],hsn⟩ (by show e.l.length-(i+1)<e.l.length-i;omega) ?_⟩
    exact lwA
  · have d1:¬(i:Int)<(e.l.length:Int):=by omega
    obtain rfl:i=e.l.length:=by omega
    rw[List.take_length,←hL,List.take_length]at hT
    rw[hT]at hY hPF
    have hL3:L.length≤3:=by omega
    unfold z9n at hY
    unfold z2G at ht'
    unfold zh0 at hY
    rcases z3a hn with k|k|k|k|k|k
    · rw[if_neg (by omega),if_neg (by omega),if_neg (by omega),if_neg (by omega),if_neg (by omega),if_neg (by omega)]at hY
      have HN:=z0N (glE m) e.n
      subst hY
      generalize z0i e.n=r at*
      unfold nv at*
      simp only[vW,seval,d1,cmV,vcC,k]
      (with_reducible apply z05);simp only[vW,seval,cmV,vcC];rfl;rfl;exact HN;exact km;simp only[vW,seval,cmV,vcC];rfl
      simp only[vW,seval,cmV,vcC]
    · rw[if_neg (by omega),if_pos k]at hY
      have HN:=z4L (glE m) e.s (by have:=zoh (z7s hn k).2.1;unfold z2s at this;omega)
      subst hY
      generalize z1K e.s=r at*
      unfold nv at*
      simp only[vW,seval,d1,cmV,vcC,k]
      (with_reducible apply z05);simp only[vW,seval,cmV,vcC];rfl;rfl;exact HN;exact km;simp only[vW,seval,cmV,vcC];rfl
      simp only[vW,seval,cmV,vcC]
    · rw[if_pos (Or.inl k),if_neg (by omega),if_pos k]at hY
      rw[if_neg (by omega),if_pos k]at ht'
      have hf:¬fieldAt c.fs e.s<0:=fun h=>by rw[if_pos h]at ht';cases ht'
      have HA:=z5G (glE m) c e.s hv.cl
      unfold z1V clT B at HA
      rw[if_neg hf]at HA
      obtain⟨f,v,h1,h2,h3,_⟩:=ze1 hv.fit hf
      obtain⟨q,hq⟩:∃q:Nat,fieldAt c.fs e.s=q:=⟨(fieldAt c.fs e.s).toNat,by omega⟩
      rw[hq]at HA hY h2
      rw[Int.toNat_natCast]at hY h2
      rw[z6P h2]at hY
      have HF:=zly (glE m) v (hv.few v (gM h2))
      subst hY
      unfold tv at*
      simp only[vW,seval,d1,cmV,vcC,k]
      (with_reducible apply z05);simp only[vW,seval,cmV,vcC];rfl;rfl;exact HA;exact km;simp only[vW,seval,cmV,vcC];rfl
      simp only[vW,seval,cmV,vcC,h2]
      (with_reducible apply z05);simp only[vW,seval,cmV,vcC];rfl;rfl;exact HF;exact km;simp only[vW,seval,cmV,vcC];rfl
      simp only[vW,seval,cmV,vcC]
    · rw[if_neg (by omega),if_neg (by omega),if_neg (by omega),if_pos k]at hY
      rw[if_neg (by omega),if_neg (by omega),if_pos k]at ht'
      obtain⟨_,hb,a,b,hab⟩:=z69 hn k
      have hlen:L.length=2:=by rw[hL,hab];rfl
      have hl2:e.l.length=2:=by rw[hab];rfl
      obtain⟨p,q,rfl⟩:∃p q,L=[p,q]:=by
        match L,hlen with
        |[p,q],_=>exact⟨p,q,rfl⟩
      obtain⟨t,u,rfl⟩:∃t u,ps=[t,u]:=by
        match ps,hpl.trans hl2 with
        |[t,u],_=>exact⟨t,u,rfl⟩
      have fp:zD p t=true:=hPF.2 0 p t rfl rfl
      have fq:zD q u=true:=hPF.2 1 q u rfl rfl
      have HO:zC (glE m) 155 [S (str e.s),tv p,tv q] [] (nv (opV e.s p q)) []:=by
        unfold zdq at ht'
        by_cases h1:e.s=[43]∨e.s=[45]∨e.s=[42]∨e.s=[47]∨e.s=[37]
        · rw[if_pos h1]at ht'
          obtain⟨k0,k1⟩:=z3f ht'
          exact zm3 (glE m) e.s (z8c fp k0) (z8c fq k1) (by rcases h1 with h|h|h|h|h<;>simp[h])
        · rw[if_neg h1]at ht'
          by_cases h2:e.s=[38]
          · rw[if_pos h2]at ht'
            obtain⟨k0,k1⟩:=z3f ht'
            rw[h2]
            exact zm2 (glE m) (z4Y fp k0) (z4Y fq k1)
          · rw[if_neg h2]at ht'
            exact zm1 (glE m) e.s (zhr fp (zc9 (show z1G t u=true from ht')).2) (by rcases z9H hb with h|h|h|h|h|h|h|h|h|h|h|h<;>simp[h]at h1 h2 ⊢)
      simp only[List.getD_cons_zero,List.getD_cons_succ]at hY
      subst hY
      generalize opV e.s p q=r at*
      unfold nv tv at*
      simp only[vW,seval,d1,cmV,vcC,k,hl2,z0S,z2W]
      (with_reducible apply z05);simp only[vW,seval,cmV,vcC];rfl;rfl;exact HO;exact km;simp only[vW,seval,cmV,vcC];rfl
      simp only[vW,seval,cmV,vcC]
    · rw[if_neg (by omega),if_neg (by omega),if_neg (by omega),if_neg (by omega),if_pos k]at hY
      rw[if_neg (by omega),if_neg (by omega),if_neg (by omega),if_pos k]at ht'
      obtain⟨_,hb,a,hab⟩:=z7t hn k
      have hl1:e.l.length=1:=by rw[hab];rfl
      obtain⟨p,rfl⟩:∃p,L=[p]:=by
        match L,hL.trans hl1 with
        |[p],_=>exact⟨p,rfl⟩
      obtain⟨t,rfl⟩:∃t,ps=[t]:=by
        match ps,hpl.trans hl1 with
        |[t],_=>exact⟨t,rfl⟩
      have fp:zD p t=true:=hPF.2 0 p t rfl rfl
      have rg:=z8c fp (z7N ht')
      unfold RgN at rg
      have w1:IntKind.i64.wrap (0-p.n)= -p.n:=wG
      have HN:=z0N (glE m) (-p.n)
      simp only[List.getD_cons_zero]at hY
      subst hY
      generalize z0i (-p.n)=r at*
      unfold nv at*
      simp only[vW,seval,d1,cmV,vcC,k,hl1,z0S,z2W,w1]
      (with_reducible apply z05);simp only[vW,seval,cmV,vcC];rfl;rfl;exact HN;exact km;simp only[vW,seval,cmV,vcC];rfl
      simp only[vW,seval,cmV,vcC]
    · simp only[if_neg (show ¬e.k=2 by omega),if_neg (show ¬e.k=3 by omega),if_neg (show ¬e.k=4 by omega),if_neg (show ¬e.k=5 by omega),if_pos k]at hY
      rw[if_neg (by omega),if_neg (by omega),if_neg (by omega),if_neg (by omega),if_pos k]at ht'
      obtain⟨_,hb,hlen⟩:=z6a hn k
      obtain⟨ym,hy,hlkp⟩:=zmS hb
      rcases z3I hb with hs'|hs'|hs'|hs'|hs'|hs'|hs'|hs'|hs'|hs'<;>rw[hs']at hY ht' hlen hy hlkp
      · have hl1 : e.l.length = 1 := by have : zq z4i = 1 := by decide
                                        omega
        obtain⟨x,rfl⟩:∃x,L=[x]:=by
          match L,hL.trans hl1 with
          |[x],_=>exact⟨x,rfl⟩
        obtain⟨t0,rfl⟩:∃t0,ps=[t0]:=by
          match ps,hpl.trans hl1 with
          |[t0],_=>exact⟨t0,rfl⟩
        obtain rfl:clE (z08 1 [2]) (fnP 137)=ym:=Option.some.inj hy
        have ht':(zE 1 [2] [t0]).2=true:=ht'
        have f0:zD x t0=true:=hPF.2 0 x t0 rfl rfl
        have k0:=z7N ht'
        have T1:zC (glE m) 137 [.bs 1000 0 1 1] [.box (vC [x])] (nv (z09 z4i [x])) [.box (vC [x])]:=zkZ (glE m) (z4Y f0 k0)
        rw[if_neg (fun h=>h.elim (fun h=>by omega) fun h=>absurd h.2 (by decide))]at hY
        subst hY
        generalize z09 z4i [x]=r at*
        unfold clE fnP z08 at hlkp
        unfold nv at*
        simp only[vW,seval,d1,cmV,vcC,k,hl1,hs',hlkp]
        (with_reducible apply zJ);simp only[vW,seval,cmV,vcC];rfl;exact T1;rfl;simp only[vW,seval,cmV,vcC];rfl
        simp only[vW,seval,cmV,vcC]
      · have hl1 : e.l.length = 1 := by have : zq z1z = 1 := by decide
                                        omega
        obtain⟨x,rfl⟩:∃x,L=[x]:=by
          match L,hL.trans hl1 with
          |[x],_=>exact⟨x,rfl⟩
        obtain⟨t0,rfl⟩:∃t0,ps=[t0]:=by
          match ps,hpl.trans hl1 with
          |[t0],_=>exact⟨t0,rfl⟩
        obtain rfl:clE (z08 2 [1]) (fnP 147)=ym:=Option.some.inj hy
        have ht':(zE 2 [1] [t0]).2=true:=ht'
        have f0:zD x t0=true:=hPF.2 0 x t0 rfl rfl
        have k0:=z7N ht'
        have T1:zC (glE m) 147 [.bs 1000 0 1 1] [.box (vC [x])] (nv (z09 z1z [x])) [.box (vC [x])]:=zdy (zl4 m (z8c f0 k0))
        rw[if_neg (fun h=>h.elim (fun h=>by omega) fun h=>absurd h.2 (by decide))]at hY
        subst hY
        generalize z09 z1z [x]=r at*
        unfold clE fnP z08 at hlkp
        unfold nv at*
        simp only[vW,seval,d1,cmV,vcC,k,hl1,hs',hlkp]
        (with_reducible apply zJ);simp only[vW,seval,cmV,vcC];rfl;exact T1;rfl;simp only[vW,seval,cmV,vcC];rfl
        simp only[vW,seval,cmV,vcC]
      · have hl1 : e.l.length = 1 := by have : zq z4j = 1 := by decide
                                        omega
        obtain⟨x,rfl⟩:∃x,L=[x]:=by
          match L,hL.trans hl1 with
          |[x],_=>exact⟨x,rfl⟩
        obtain⟨t0,rfl⟩:∃t0,ps=[t0]:=by
          match ps,hpl.trans hl1 with
          |[t0],_=>exact⟨t0,rfl⟩
        obtain rfl:clE (z08 1 [2]) (fnP 148)=ym:=Option.some.inj hy
        have ht':(zE 1 [2] [t0]).2=true:=ht'
        have f0:zD x t0=true:=hPF.2 0 x t0 rfl rfl
        have k0:=z7N ht'
        have T1:zC (glE m) 148 [.bs 1000 0 1 1] [.box (vC [x])] (nv (z09 z4j [x])) [.box (vC [x])]:=zl5 m (z4Y f0 k0)
        rw[if_neg (fun h=>h.elim (fun h=>by omega) fun h=>absurd h.2 (by decide))]at hY
        subst hY
        generalize z09 z4j [x]=r at*
        unfold clE fnP z08 at hlkp
        unfold nv at*
        simp only[vW,seval,d1,cmV,vcC,k,hl1,hs',hlkp]
        (with_reducible apply zJ);simp only[vW,seval,cmV,vcC];rfl;exact T1;rfl;simp only[vW,seval,cmV,vcC];rfl
        simp only[vW,seval,cmV,vcC]
      · have hl1 : e.l.length = 2 := by have : zq z1r = 2 := by decide
                                        omega
        obtain⟨x,y,rfl⟩:∃x y,L=[x,y]:=by
          match L,hL.trans hl1 with
          |[x,y],_=>exact⟨x,y,rfl⟩
        obtain⟨t0,t1,rfl⟩:∃t0 t1,ps=[t0,t1]:=by
          match ps,hpl.trans hl1 with
          |[t0,t1],_=>exact⟨t0,t1,rfl⟩
        obtain rfl:clE (z08 2 [2,1]) (fnP 140)=ym:=Option.some.inj hy
        have ht':(zE 2 [2,1] [t0,t1]).2=true:=ht'
        have f0:zD x t0=true:=hPF.2 0 x t0 rfl rfl
        have f1:zD y t1=true:=hPF.2 1 y t1 rfl rfl
        obtain⟨k0,k1⟩:=z3f ht'
        have T1:zC (glE m) 140 [.bs 1000 0 2 2] [.box (vC [x,y])] (nv (z09 z1r [x,y])) [.box (vC [x,y])]:=zl0 (glE m) (z4Y f0 k0)
        rw[if_neg (fun h=>h.elim (fun h=>by omega) fun h=>absurd h.2 (by decide))]at hY
        subst hY
        generalize z09 z1r [x,y]=r at*
        unfold clE fnP z08 at hlkp
        unfold nv at*
        simp only[vW,seval,d1,cmV,vcC,k,hl1,hs',hlkp]
        (with_reducible apply zJ);simp only[vW,seval,cmV,vcC];rfl;exact T1;rfl;simp only[vW,seval,cmV,vcC];rfl
        simp only[vW,seval,cmV,vcC]
      · have hl1 : e.l.length = 2 := by have : zq z0T = 2 := by decide
                                        omega
        obtain⟨x,y,rfl⟩:∃x y,L=[x,y]:=by
          match L,hL.trans hl1 with
          |[x,y],_=>exact⟨x,y,rfl⟩
        obtain⟨t0,t1,rfl⟩:∃t0 t1,ps=[t0,t1]:=by
          match ps,hpl.trans hl1 with
          |[t0,t1],_=>exact⟨t0,t1,rfl⟩
        obtain rfl:clE (z08 2 [2,1]) (fnP 143)=ym:=Option.some.inj hy
        have ht':(zE 2 [2,1] [t0,t1]).2=true:=ht'
        have f0:zD x t0=true:=hPF.2 0 x t0 rfl rfl
        have f1:zD y t1=true:=hPF.2 1 y t1 rfl rfl
        obtain⟨k0,k1⟩:=z3f ht'
        have T1:zC (glE m) 143 [.bs 1000 0 2 2] [.box (vC [x,y])] (nv (z09 z0T [x,y])) [.box (vC [x,y])]:=zl1 (glE m) (z4Y f0 k0) (z8c f1 k1)
        rw[if_neg (fun h=>h.elim (fun h=>by omega) fun h=>absurd h.2 (by decide))]at hY
        subst hY
        generalize z09 z0T [x,y]=r at*
        unfold clE fnP z08 at hlkp
        unfold nv at*
        simp only[vW,seval,d1,cmV,vcC,k,hl1,hs',hlkp]
        (with_reducible apply zJ);simp only[vW,seval,cmV,vcC];rfl;exact T1;rfl;simp only[vW,seval,cmV,vcC];rfl
        simp only[vW,seval,cmV,vcC]
      · have hl1 : e.l.length = 2 := by have : zq z1q = 2 := by decide
                                        omega
        obtain⟨x,y,rfl⟩:∃x y,L=[x,y]:=by
          match L,hL.trans hl1 with
          |[x,y],_=>exact⟨x,y,rfl⟩
        obtain⟨t0,t1,rfl⟩:∃t0 t1,ps=[t0,t1]:=by
          match ps,hpl.trans hl1 with
          |[t0,t1],_=>exact⟨t0,t1,rfl⟩
        obtain rfl:clE (z08 2 [2,1]) (fnP 144)=ym:=Option.some.inj hy
        have ht':(zE 2 [2,1] [t0,t1]).2=true:=ht'
        have f0:zD x t0=true:=hPF.2 0 x t0 rfl rfl
        have f1:zD y t1=true:=hPF.2 1 y t1 rfl rfl
        obtain⟨k0,k1⟩:=z3f ht'
        have T1:zC (glE m) 144 [.bs 1000 0 2 2] [.box (vC [x,y])] (nv (z09 z1q [x,y])) [.box (vC [x,y])]:=zl2 (glE m) (z4Y f0 k0)
        rw[if_neg (fun h=>h.elim (fun h=>by omega) fun h=>absurd h.2 (by decide))]at hY
        subst hY
        generalize z09 z1q [x,y]=r at*
        unfold clE fnP z08 at hlkp
        unfold nv at*
        simp only[vW,seval,d1,cmV,vcC,k,hl1,hs',hlkp]
        (with_reducible apply zJ);simp only[vW,seval,cmV,vcC];rfl;exact T1;rfl;simp only[vW,seval,cmV,vcC];rfl
        simp only[vW,seval,cmV,vcC]
      · have hl1 : e.l.length = 2 := by have : zq z34 = 2 := by decide
                                        omega
        obtain⟨x,y,rfl⟩:∃x y,L=[x,y]:=by
          match L,hL.trans hl1 with
          |[x,y],_=>exact⟨x,y,rfl⟩
        obtain⟨t0,t1,rfl⟩:∃t0 t1,ps=[t0,t1]:=by
          match ps,hpl.trans hl1 with
          |[t0,t1],_=>exact⟨t0,t1,rfl⟩
        obtain rfl:clE (z08 1 [2,2]) (fnP 145)=ym:=Option.some.inj hy
        have ht':(zE 1 [2,2] [t0,t1]).2=true:=ht'
        have f0:zD x t0=true:=hPF.2 0 x t0 rfl rfl
        have f1:zD y t1=true:=hPF.2 1 y t1 rfl rfl
        obtain⟨k0,k1⟩:=z3f ht'
        have T1:zC (glE m) 145 [.bs 1000 0 2 2] [.box (vC [x,y])] (nv (z09 z34 [x,y])) [.box (vC [x,y])]:=zdy (zl3 m (z4Y f0 k0))
        rw[if_neg (fun h=>h.elim (fun h=>by omega) fun h=>absurd h.2 (by decide))]at hY
        subst hY
        generalize z09 z34 [x,y]=r at*
        unfold clE fnP z08 at hlkp
        unfold nv at*
        simp only[vW,seval,d1,cmV,vcC,k,hl1,hs',hlkp]
        (with_reducible apply zJ);simp only[vW,seval,cmV,vcC];rfl;exact T1;rfl;simp only[vW,seval,cmV,vcC];rfl
        simp only[vW,seval,cmV,vcC]
      · have hl1 : e.l.length = 2 := by have : zq z4z = 2 := by decide
                                        omega
        obtain⟨x,y,rfl⟩:∃x y,L=[x,y]:=by
          match L,hL.trans hl1 with
          |[x,y],_=>exact⟨x,y,rfl⟩
        obtain⟨t0,t1,rfl⟩:∃t0 t1,ps=[t0,t1]:=by
          match ps,hpl.trans hl1 with
          |[t0,t1],_=>exact⟨t0,t1,rfl⟩
        obtain rfl:clE (z08 1 [1,1]) (fnP 152)=ym:=Option.some.inj hy
        have ht':(zE 1 [1,1] [t0,t1]).2=true:=ht'
        have f0:zD x t0=true:=hPF.2 0 x t0 rfl rfl
        have f1:zD y t1=true:=hPF.2 1 y t1 rfl rfl
        obtain⟨k0,k1⟩:=z3f ht'
        have T1:zC (glE m) 152 [.bs 1000 0 2 2] [.box (vC [x,y])] (nv (z09 z4z [x,y])) [.box (vC [x,y])]:=zl7 (glE m)
        rw[if_neg (fun h=>h.elim (fun h=>by omega) fun h=>absurd h.2 (by decide))]at hY
        subst hY
        generalize z09 z4z [x,y]=r at*
        unfold clE fnP z08 at hlkp
        unfold nv at*
        simp only[vW,seval,d1,cmV,vcC,k,hl1,hs',hlkp]
        (with_reducible apply zJ);simp only[vW,seval,cmV,vcC];rfl;exact T1;rfl;simp only[vW,seval,cmV,vcC];rfl
        simp only[vW,seval,cmV,vcC]
      · have hl1 : e.l.length = 2 := by have : zq z5e = 2 := by decide
                                        omega
        obtain⟨x,y,rfl⟩:∃x y,L=[x,y]:=by
          match L,hL.trans hl1 with
          |[x,y],_=>exact⟨x,y,rfl⟩
        obtain⟨t0,t1,rfl⟩:∃t0 t1,ps=[t0,t1]:=by
          match ps,hpl.trans hl1 with
          |[t0,t1],_=>exact⟨t0,t1,rfl⟩
        obtain rfl:clE (z08 1 [1,1]) (fnP 153)=ym:=Option.some.inj hy
        have ht':(zE 1 [1,1] [t0,t1]).2=true:=ht'
        have f0:zD x t0=true:=hPF.2 0 x t0 rfl rfl
        have f1:zD y t1=true:=hPF.2 1 y t1 rfl rfl
        obtain⟨k0,k1⟩:=z3f ht'
        have T1:zC (glE m) 153 [.bs 1000 0 2 2] [.box (vC [x,y])] (nv (z09 z5e [x,y])) [.box (vC [x,y])]:=ziQ (glE m)
        rw[if_neg (fun h=>h.elim (fun h=>by omega) fun h=>absurd h.2 (by decide))]at hY
        subst hY
        generalize z09 z5e [x,y]=r at*
        unfold clE fnP z08 at hlkp
        unfold nv at*
        simp only[vW,seval,d1,cmV,vcC,k,hl1,hs',hlkp]
        (with_reducible apply zJ);simp only[vW,seval,cmV,vcC];rfl;exact T1;rfl;simp only[vW,seval,cmV,vcC];rfl
        simp only[vW,seval,cmV,vcC]
      · have hl1 : e.l.length = 3 := by have : zq nIf = 3 := by decide
                                        omega
        obtain⟨x,y,z,rfl⟩:∃x y z,L=[x,y,z]:=by
          match L,hL.trans hl1 with
          |[x,y,z],_=>exact⟨x,y,z,rfl⟩
        obtain rfl:clE (fnP 150) (fnP 151)=ym:=Option.some.inj hy
        have T1:zC (glE m) 151 [.bs 1000 0 3 3] [.box (vC [x,y,z])] (tv (z09 nIf [x,y,z])) [.box (vC [x,y,z])]:=zl6 (glE m)
        rw[if_pos (Or.inr ⟨k,rfl⟩)]at hY
        subst hY
        generalize z09 nIf [x,y,z]=r at*
        unfold clE fnP at hlkp
        unfold tv at*
        simp only[vW,seval,d1,cmV,vcC,k,hl1,hs',hlkp]
        (with_reducible apply zJ);simp only[vW,seval,cmV,vcC];rfl;exact T1;rfl;simp only[vW,seval,cmV,vcC];rfl
        simp only[vW,seval,cmV,vcC]
theorem zqw(s:zB)(a b:V):(opV s a b).l=[]:=by
 unfold opV
 repeat' split
 all_goals rfl
theorem znW{fs:List Fld}{vals ws:List V}{e:V}(h:¬(e.k=3∨(e.k=6∧e.s=nIf))):(z9n fs vals e ws).l=[]:=by
 rw[not_or]at h;unfold z9n;rw[if_neg h.1];split
 ·rfl
 split
 ·exact zqw _ _ _
 split
 ·rfl
 split
 ·rename_i h6;have hs:e.s≠nIf:=fun hs=>h.2 ⟨h6,hs⟩;unfold z09;simp only[if_neg hs]
  repeat' split
  all_goals rfl
 ·rfl
theorem zfj(m:Nat)(c:Cls)(vals:List V)(hv:ValsOk c vals):∀d,zfX m c vals d
 |0=>fun e he=>by simp[okE]at he
 |d+1=>fun e he hs ht=>by
  have:=ziE m c vals hv d (zfj m c vals hv d) e he hs ht;unfold zh0 at this;split at this
  ·exact this
  ·rename_i hne;exact this.out (z3s (znW hne))
end
theorem z9P(c:UInt8):∀(s:zB),c∉s→Lib.index s [c]= -1
 |[],_=>rfl
 |b::l,h=>by
  have h2:=z9P c l (fun hm=>h (List.mem_cons_of_mem _ hm))
  grind [Lib.index,List.isPrefixOf]
theorem zcy(c:UInt8)(post:zB):∀(pre:zB),c∉pre→Lib.index (pre++c::post) [c]=pre.length
 |[],_=>by simp[Lib.index,List.isPrefixOf]
 |b::l,h=>by
  have h2:=zcy c post l (fun hm=>h (List.mem_cons_of_mem _ hm))
  grind [Lib.index]
theorem z8O(c:UInt8)(new:zB):∀(fuel:Nat) (s:zB),s.length<fuel→Lib.replaceK [c] new (Lib.countFrom [c] fuel s) s=s.flatMap fun b=>if b=c then new else [b]
 |0,s,h=>by omega
 |fuel+1,s,h=>by
  have hplain:∀l:zB,c∉l→(l.flatMap fun b=>if b=c then new else [b])=l:=by
   intro l
   induction l<;>grind
  by_cases hm:c∈s
  ·obtain⟨pre,post,rfl,hpre⟩:=List.eq_append_cons_of_mem hm;have hi:=zcy c post pre hpre;have hne:¬(Lib.index (pre++c::post) [c]== -1)=true:=by grind
   unfold Lib.countFrom;rw[if_neg hne,Nat.add_comm,Lib.replaceK_hit _ _ _ _ pre.length hi,hi];have hd:(pre++c::post).drop ((pre.length:Int).toNat+[c].length)=post:=by
    simp
   have hd':(pre++c::post).drop (pre.length+[c].length)=post:=by
    simp
   rw[hd,hd',z8O c new fuel post (by grind)]
   grind
  ·grind [Lib.countFrom,z9P,Lib.replaceK]
theorem z4G(c:UInt8)(new:zB)(hne:new≠[c])(s:zB):Lib.replaceAll s [c] new=s.flatMap fun b=>if b=c then new else [b]:=by
 unfold Lib.replaceAll Lib.replace Lib.replaceNum Lib.count
 grind [z8O]
theorem zme(s:zB):(Lib.replaceAll s [92] [92,92]).length≤2*s.length:=by
 rw[z4G 92 _ (by decide)]
 induction s<;>grind
theorem z89(c:UInt8):∀(fuel:Nat) (s:zB),Lib.countFrom [c] fuel s≤s.length
 |0,s=>by simp[Lib.countFrom]
 |fuel+1,s=>by
  unfold Lib.countFrom;split
  ·omega
  ·rename_i h;have h1:=Lib.index_ge s [c];have h2:Lib.index s [c]≠ -1:=fun e=>h (by grind);have h3:=Lib.index_room s [c] (by omega);have:=z89 c fuel (s.drop ((Lib.index s [c]).toNat+[c].length))
   grind
theorem zaY(c:UInt8)(s:zB):Lib.countB (str s) (str [c])≤s.length:=by
 have:Lib.countB (str s) (str [c])=Lib.count s [c]:=by unfold Lib.countB;rw[str_toList,str_toList]
 rw[this];exact z89 c _ s
end Go.Proofs.YtcpaleaajdilgaaGreatDoor
end
