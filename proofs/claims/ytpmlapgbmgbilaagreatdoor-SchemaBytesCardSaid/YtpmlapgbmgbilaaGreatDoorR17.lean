/- Merged texts: Zv2 Cd4 Ze0 PSign Sy1 Ze1 Cd5 Ze2 Ze3. No statement of the program is proved here. -/
import Derived.Test.YtpmlapgbmgbilaaGreatDoorR13
import Derived.Test.YtpmlapgbmgbilaaGreatDoorR15
import Derived.Test.YtpmlapgbmgbilaaGreatDoorR16
set_option linter.unusedSimpArgs false
set_option linter.unusedVariables false
set_option maxRecDepth 100000
set_option maxHeartbeats 8000000
section
namespace Go.Proofs.YtpmlapgbmgbilaaGreatDoor
open Go Go.RowKit Go.Mor Go.Sh Go.Sh.Cd1
theorem zjk(m:Nat)(x:V)(hs:z25 x):zC (gl0 m) 174 [tv x] [] (B (z3S x)) []:=by
 refine za tf_200 ?_;unfold z3S B;by_cases k5:x.k=5
 ·have h:(x.k==5)=true:=by simp[k5]
  have d:decide (x.k=5)=true:=by simp[k5]
  simp only[vW,seval,d,h];rfl
 ·have HR:=zc7 m x hs k5;have h:(x.k==5)=false:=by simpa using k5
  unfold B at HR;simp only[vW,seval,k5,h];exact zf HR
theorem z3k{α:Type}(p:α→Bool):∀(l:List α) (i:Nat),(∀j x,j<i→l[j]?=some x→p x=false)→∀x,l[i]?=some x→p x=true→z0N p l=i
 |[],i,_,x,hx,_=>by simp at hx
 |a::l,0,_,x,hx,hp=>by simp at hx;subst hx;simp[z0N,List.findIdx?_cons,hp]
 |a::l,i+1,h,x,hx,hp=>by
  have h0:=h 0 a (by omega) rfl;have:=z3k p l i (fun j y hj hy=>h (j+1) y (by omega) (by simpa using hy)) x (by simpa using hx) hp;unfold z0N at this ⊢;rw[List.findIdx?_cons,h0];cases hf:l.findIdx? p with
  |none=>rw[hf]at this;simp only at this;omega
  |some q=>rw[hf]at this;simp only at this ⊢;simp;omega
theorem z3l{α:Type}(p:α→Bool)(l:List α)(h:∀x∈l,p x=false):z0N p l= -1:=by
 have:l.findIdx? p=none:=List.findIdx?_eq_none_iff.2 h;unfold z0N;rw[this]
theorem zai{α:Type}(p:α→Bool)(l:List α):decide (0≤z0N p l)=l.any p:=by
 rw[Bool.eq_iff_iff,decide_eq_true_eq,List.any_eq_true];constructor
 ·intro h;by_cases hn:∀x∈l,p x=false
  ·rw[z3l p l hn]at h;omega
  ·obtain⟨x,hx⟩:=Classical.not_forall.1 hn;obtain⟨hx,hp⟩:=Classical.not_imp.1 hx;exact⟨x,hx,by simpa using hp⟩
 ·rintro⟨x,hx,hp⟩;unfold z0N;cases hf:l.findIdx? p with
  |none=>rw[List.findIdx?_eq_none_iff.1 hf x hx]at hp;cases hp
  |some i=>simp
theorem zj8(m:Nat)(l:List V)(hl:l.length≤maxLen)(hs:∀x∈l,z25 x):zC (gl0 m) 175 [.pv (.sl 4 (V.rows l)),.pv (.v (.func (.func 174) #[] #[]))] [] (I (z0N z3S l)) []:=by
 refine za tf_191 ?_;have hm:maxLen=9223372036854775807:=rfl;simp only[vW,seval];refine zk (σ:={i:Nat // i≤l.length∧∀j x,j<i→l[j]?=some x→z3S x=false}) (fun i=>⟨[(0,.pv (.sl 4 (V.rows l))),(1,.pv (.v (.func (.func 174) #[] #[]))),(7,I (l.length:Int)),(8,I (i.1:Int))],[],[],[]⟩) (fun i=>l.length-i.1) ⟨0,Nat.zero_le _,fun j x hj=>by omega⟩ (z18 (by simp[I])) ?_;rintro⟨i,hi,hno⟩;by_cases hlt:i<l.length
 ·have d1:(i:Int)<(l.length:Int):=by omega
  obtain⟨x,ex⟩:∃x,l[i]?=some x:=⟨_,gE hlt⟩
  have HN:=zjk m x (hs x (gM ex));have w1:=wS i;unfold tv B at HN;simp only[vW,seval,d1,ex];(with_reducible apply zr);exact kv;exact HN;rfl;exact kv;cases hp:z3S x
  ·simp only[vW,seval,w1];refine zc ⟨i+1,by omega,fun j y hj hy=> ?_⟩ (by show l.length-(i+1)<l.length-i;omega) ?_
   ·by_cases hji:j=i
    ·subst hji;rw[ex]at hy;cases hy;exact hp
    ·exact hno j y (by omega) hy
   ·exact lwA
  ·simp only[vW,seval];rw[z3k z3S l i hno x ex hp]
 ·have d1:¬(i:Int)<(l.length:Int):=by omega
  simp only[vW,seval,d1];rw[z3l z3S l (fun x hx=>by
   obtain⟨j,hj⟩:=List.getElem?_of_mem hx;exact hno j x (by have:=(gJ hj).1;omega) hj)]
theorem ze2(m:Nat)(l:List V)(hl:l.length≤maxLen)(hs:∀x∈l,z25 x):zC (gl0 m) 144 [.pv (.sl 4 (V.rows l)),.pv (.v (.func (.func 174) #[] #[]))] [] (B (l.any z3S)) []:=by
 refine za tf_186 ?_;have HI:=zj8 m l hl hs;rw[←zai];unfold B;simp only[vW,seval];exact zf HI
theorem zcb(m:Nat)(x:V)(hx:VOk x):zC (gl0 m) 141 [tv x] [] (B (z1r x)) []:=by
 unfold z1r;by_cases k5:x.k=5
 ·rw[if_pos k5];obtain⟨k,n,s,l⟩:=x;simp only[Vk]at k5;subst k5;simp only[Vn,Vs,Vl];refine za tf_196 ?_;unfold B;by_cases n0:n=0
  ·subst n0;cases hs:s==[]
   ·simp only[vW,seval,e0,hs]
   ·by_cases h12:l.length≤12
    ·have d1:(l.length:Int)≤12:=by omega
     have HC:=ze2 m l (by unfold maxLen;omega) (fun y hy=>hx.2 y hy);unfold B at HC;simp only[vW,seval,e0,hs,d1,h12];exact zf HC
    ·have d1:¬(l.length:Int)≤12:=by omega
     simp only[vW,seval,e0,hs,d1,h12]
  ·have hn0:(n==0)=false:=by simpa using n0
   simp only[vW,seval,n0,hn0]
 ·rw[if_neg k5];exact zc7 m x hx.1 k5
theorem z9e(g:Sh.Glob)(t:Ty):zC g 142 [tyT t] [] (B (zi t)) []:=by
 refine za tf_205 ?_;obtain⟨k,o⟩:=t;unfold B;simp only[vW,seval];unfold zi
 repeat' (first|(apply And.intro)|(intro _))
 all_goals(first|(simp_all;done)|(simp_all;omega))
theorem zdE(g:Sh.Glob)(x:V)(k:Int):zC g 143 [tv x,I k] [] (B (z1U x k)) []:=by
 refine za tf_201 ?_;unfold B;simp only[vW,seval];unfold z1U
 repeat' (first|(apply And.intro)|(intro _))
 all_goals(first|(simp_all;done)|(simp only[Option.some.injEq,TV.pv.injEq,PV.v.injEq,Value.bool.injEq];rw[Bool.eq_iff_iff];simp_all;done)|(simp only[Option.some.injEq,TV.pv.injEq,PV.v.injEq,Value.bool.injEq];rw[Bool.eq_iff_iff];simp_all;omega))
theorem znz(g:Sh.Glob)(x:V)(t:Ty):zC g 145 [tv x,.ptr 1000 0] [.box [I t.k,I t.o]] (B (!z1U x t.o)) [.box [I t.k,I t.o]]:=by
 refine zj tf_195 ?_;have HK:=zdE g x t.o;unfold B at*;simp only[vW,seval];exact zf HK
theorem zfo(g:Sh.Glob)(l:List V)(t:Ty)(hl:l.length≤maxLen):zC g 175 [.pv (.sl 4 (V.rows l)),.fn (.func 145) [] [.ptr 1000 0]] [.box [I t.k,I t.o]] (I (z0N (fun y=> !z1U y t.o) l)) [.box [I t.k,I t.o]]:=by
 refine zj tf_191 ?_;have hm:maxLen=9223372036854775807:=rfl;simp only[vW,seval];refine zk (σ:={i:Nat // i≤l.length∧∀j x,j<i→l[j]?=some x→(!z1U x t.o)=false}) (fun i=>⟨[(0,.pv (.sl 4 (V.rows l))),(1,.fn (.func 145) [] [.ptr 1000 0]),(7,I (l.length:Int)),(8,I (i.1:Int))],[(1000,[I t.k,I t.o])],[],[]⟩) (fun i=>l.length-i.1) ⟨0,Nat.zero_le _,fun j x hj=>by omega⟩ (z18 (by simp[I])) ?_;rintro⟨i,hi,hno⟩;by_cases hlt:i<l.length
 ·have d1:(i:Int)<(l.length:Int):=by omega
  obtain⟨x,ex⟩:∃x,l[i]?=some x:=⟨_,gE hlt⟩
  have HN:=znz g x t;have w1:=wS i;unfold tv B at HN;simp only[vW,seval,d1,ex];(with_reducible apply zr);exact kv;exact HN;rfl;exact kv;cases hp:z1U x t.o
  ·simp only[vW,seval];rw[z3k (fun y=> !z1U y t.o) l i hno x ex (by simp[hp])]
  ·simp only[vW,seval,w1];refine zc ⟨i+1,by omega,fun j y hj hy=> ?_⟩ (by show l.length-(i+1)<l.length-i;omega) ?_
   ·by_cases hji:j=i
    ·subst hji;rw[ex]at hy;cases hy;simp[hp]
    ·exact hno j y (by omega) hy
   ·exact lwA
 ·have d1:¬(i:Int)<(l.length:Int):=by omega
  simp only[vW,seval,d1];rw[z3l (fun y=> !z1U y t.o) l (fun x hx=>by
   obtain⟨j,hj⟩:=List.getElem?_of_mem hx;exact hno j x (by have:=(gJ hj).1;omega) hj)]
theorem zbB(g:Sh.Glob)(l:List V)(t:Ty)(hl:l.length≤maxLen):zC g 144 [.pv (.sl 4 (V.rows l)),.fn (.func 145) [] [.ptr 1000 0]] [.box [I t.k,I t.o]] (B (l.any fun y=> !z1U y t.o)) [.box [I t.k,I t.o]]:=by
 refine zj tf_186 ?_;have HI:=zfo g l t hl;rw[←zai];unfold B;simp only[vW,seval];exact zf HI
theorem znA(m:Nat)(x:V)(t:Ty)(hx:VOk x)(hl:x.l.length≤maxLen):zC (gl0 m) 104 [tv x,tyT t] [] (B (zJ x t)) []:=by
 refine za tf_194 ?_;have HR:=zcb m x hx;have HT:=z9e (gl0 m) t;have HK:=zdE (gl0 m) x t.k;have HC:=zbB (gl0 m) x.l t hl;unfold zJ B at*;simp only[vW,seval];refine z7 HR ?_;cases z1r x
 ·simp only[vW,seval]
 simp only[vW,seval];refine z7 HT ?_;cases zi t
 ·simp only[vW,seval]
 simp only[vW,seval];refine z7 HK ?_;cases z1U x t.k
 ·simp only[vW,seval]
 simp only[vW,seval];exact zf HC
end Go.Proofs.YtpmlapgbmgbilaaGreatDoor
end

section
namespace Go.Sh.Cd4
open Go Go.Sh
abbrev gQ(a:GA):Prop:=gT Go.Proofs.Tryz.prog a
theorem gK{a:GA}(h:gQ a:=by unfold gQ gT;kernel_rfl):gQ a:=h
theorem tf_122:gQ ⟨12,81,[(10,0),(11,0),(14,0),(37,0),(42,0),(52,0),(69,0),(77,0)],[],[[0],[10],[11017],[],[18025],[7,27028,73],[26,29033],[34045],[46048],[49055],[6,49,56064],[8,65071],[9,72],[7,73079],[1,3005,80]],[.cell true 2 2],false⟩:=gK
theorem tf_60:gQ ⟨16,17,[],[],[[1000001,4],[2003,5016]],[.tmp 4],false⟩:=gK
theorem tf_55:gQ ⟨17,53,[(8,0),(12,2),(17,0),(29,2),(34,0),(40,0),(45,0),(48,0)],[],[[0,2003],[7008],[1,9],[2003,9012],[13018],[1,19],[],[23025],[26029],[30035],[36041],[6,42],[43046],[43,47049],[50],[4,20022,51052]],[.tmp 2,.tmp 3],false⟩:=gK
theorem tf_54:gQ ⟨18,55,[(15,1),(17,1),(31,1),(40,0),(48,0)],[(15,[[(0,8),(2,7),(3,4)]])],[[5006],[1000001,12014],[15016],[17],[18022],[7009,23024],[5006,9,23],[],[27033],[11,34],[7008,10,25026,35036],[5006,10,35,37042],[43],[25026,44049],[7008,50051],[7008,50,52054]],[.cell true 2 4,.tmp 5,.tmp 6],false⟩:=gK
theorem tf_123:gQ ⟨35,13,[],[],[[4],[5],[6009],[1000001,6,10012]],[.tmp 4],false⟩:=gK
theorem tf_139:gQ ⟨36,23,[],[],[[0,4005],[],[7010],[4005,12013,21],[11,14020],[1002,6,21022],[1002,6]],[.tmp 4,.tmp 5],false⟩:=gK
theorem tf_58:gQ ⟨37,39,[],[],[[0,2],[7015],[1,16],[2,16017],[],[21024],[25026],[1,3004,18020,27],[2,4,6,27034],[3,5,35036],[1,18020,37],[2,37038],[1,18020]],[.tmp 2],false⟩:=gK
theorem tf_189:gQ ⟨39,26,[],[],[[4],[6009],[1000001,10],[4,10011],[],[14015],[5,16023],[1000001,12013,24],[4,24025],[1000001,12013]],[.tmp 4],false⟩:=gK
theorem tf_62:gQ ⟨40,15,[(9,0)],[],[[4],[1,6011],[0,5,12014]],[.tmp 4],true⟩:=gK
theorem tf_21:gQ ⟨42,35,[],[],[[2],[6018],[5,19025],[0,3004,26029],[],[0,2,4,26,30033],[3,34]],[.tmp 2],false⟩:=gK
theorem tf_20:gQ ⟨43,35,[],[],[[2],[6018],[5,19025],[0,3004,26029],[],[0,2,4,26,30033],[3,34]],[.tmp 2],false⟩:=gK
theorem tf_61:gQ ⟨44,31,[(9,1),(12,1),(16,1),(20,1)],[],[[5],[0,8010],[11014],[15018],[1,19020],[21023],[6007,24030]],[.cell true 4 4,.tmp 5],false⟩:=gK
theorem tf_141:gQ ⟨57,62,[],[],[[0,2],[6014],[1,15],[2,15],[16019],[4005,21022],[20,23027],[28046],[1,3004,47],[2,47],[48049],[2,51052,61],[50,53060],[1,3005,61],[1,3]],[.tmp 2],false⟩:=gK
theorem tf_64:gQ ⟨65,47,[],[],[[2],[4016],[0,17],[2,17018],[],[21022],[3,23044],[0,19020,45],[2,45046],[0,19020]],[.tmp 2],false⟩:=gK
theorem tf_63:gQ ⟨66,22,[],[],[[0,2],[3011],[1,12],[1,12021]],[.tmp 2],false⟩:=gK
theorem tf_56:gQ ⟨67,14,[(10,1)],[],[[1000001,4005],[2003,7010],[11],[6,12],[6,12013]],[.tmp 4,.tmp 5],false⟩:=gK
theorem tf_59:gQ ⟨76,27,[],[],[[0,2],[3004],[1,5013],[1,5,14026]],[.tmp 2],false⟩:=gK
theorem tf_53:gQ ⟨80,41,[],[],[[0,4005],[8009],[1002,10],[4005,10015],[1002,16022],[2,4005,16,23],[],[27030],[7,31037],[1,6,24026,38039],[4006,38,40],[1,24026]],[.tmp 4,.tmp 5],false⟩:=gK
theorem tf_140:gQ ⟨83,56,[],[],[[2],[6012],[0,13],[2,13],[14016],[2,18019,55],[17,20029],[30045],[4005,46054],[0,3,55],[0,3]],[.tmp 2],false⟩:=gK
theorem tf_142:gQ ⟨84,21,[],[],[[0,2],[1,3020]],[.tmp 2],false⟩:=gK
theorem tf_65:gQ ⟨94,9,[],[],[[2],[0,3008]],[.tmp 2],false⟩:=gK
theorem tf_190:gQ ⟨95,19,[(16,1)],[],[[4],[6],[],[9010],[11015],[1000001,5,7008,16017],[4005,16,18],[1000001,7008]],[.tmp 4],false⟩:=gK
theorem tf_57:gQ ⟨96,8,[],[],[[0,3],[1002,4007]],[.tmp 3],false⟩:=gK
theorem tf_143:gQ ⟨106,9,[],[],[[2],[0,3008]],[.tmp 2],false⟩:=gK
noncomputable def funcs:Nat→Option SFunc
 |_=>none
end Go.Sh.Cd4
end

section
namespace Go.Proofs.YtpmlapgbmgbilaaGreatDoor
open Go Go.RowKit Go.Mor Go.Sh Go.Sh.Cd1 Go.Sh.Cd4
theorem z24{l:zB}{k:Nat}{c:UInt8}(h:l[k]?=some c):l.drop k=c::l.drop (k+1):=by
 obtain⟨hk,he⟩:=gJ h;rw[List.drop_eq_getElem_cons hk,he]
theorem zgh(g:Sh.Glob)(b:UInt8):zC g 94 [.pv (.v (.int .u8 (b.toNat:Int)))] [] (B (small b)) []:=by
 refine za tf_65 ?_;unfold small B;by_cases q1:97≤b.toNat
 ·have d1:(97:Int)≤(b.toNat:Int):=by omega
  have q2:decide ((b.toNat:Int)≤122)=decide (b.toNat≤122):=by rw[Bool.eq_iff_iff];simp;omega
  simp only[vW,seval,d1,q2,q1];first|done|simp
 ·have d1:¬(97:Int)≤(b.toNat:Int):=by omega
  simp only[vW,seval,d1,q1];first|done|simp
theorem z6f(g:Sh.Glob)(l:zB)(hl:l.length<4611686018427387904):zC g 65 [S (str l)] [] (B (zb l)) []:=by
 refine za tf_64 ?_;by_cases h1:1≤l.length
 ·have d1:¬(l.length:Int)<1:=by omega
  by_cases h20:l.length≤20
  ·have d2:¬(20:Int)<(l.length:Int):=by omega
   obtain⟨c,r,rfl⟩:∃c r,l=c::r:=List.exists_cons_of_ne_nil (by rintro rfl;simp at h1);have HS:=zgh g c;unfold B at HS ⊢;have e0:(c::r)[0]?=some c:=rfl;have hR:zb (c::r)=(small c&&(c::r).all zS):=by
    unfold zb;rw[decide_eq_true ⟨h1,h20⟩];simp
   rw[hR];generalize hL:c::r=l at*;simp only[vW,seval,d1,d2,e0];refine z7 HS ?_;cases hs:small c
   ·simp only[vW,seval]
   simp only[vW,seval,d1,d2];refine zk (σ:={ k:Nat // k≤l.length∧(l.drop k).all zS=l.all zS })
    (fun k=>⟨[(0,S (str l)),(19,I (l.length:Int)),(20,I (k.1:Int))],[],[],[]⟩) (fun k=>l.length-k.1) ⟨0,Nat.zero_le _,rfl⟩ ?_ ?_
   ·exact lwA
   rintro⟨k,hk,hd⟩;by_cases hlt:k<l.length
   ·have d3:(k:Int)<(l.length:Int):=by omega
    obtain⟨b,eb⟩:∃b,l[k]?=some b:=⟨_,gE hlt⟩
    rw[z24 eb,List.all_cons]at hd;have hbn:=b.toNat_lt;have HB:=zgh g b;unfold B at HB;have w4:=wS k;simp only[vW,seval,d3,eb];refine z7 HB ?_;cases hsb:small b
    ·by_cases q1:b.toNat<48
     ·have d4:(b.toNat:Int)<48:=by omega
      have d6:¬(b.toNat:Int)=95:=by omega
      have hn:zS b=false:=by unfold zS;rw[hsb];simp;omega
      rw[hn,Bool.false_and]at hd;simp only[vW,seval,d3,eb,d4,d6];rw[←hd]
     ·have d4:¬(b.toNat:Int)<48:=by omega
      by_cases q2:57<b.toNat
      ·have d5:(57:Int)<(b.toNat:Int):=by omega
       by_cases q3:b.toNat=95
       ·have d6:(b.toNat:Int)=95:=by omega
        have hn:zS b=true:=by unfold zS;simp[q3]
        rw[hn,Bool.true_and]at hd;simp only[vW,seval,d3,eb,d4,d5,d6,w4];refine zc ⟨k+1,hlt,hd⟩ (by show l.length-(k+1)<l.length-k;omega) ?_;exact lwA
       ·have d6:¬(b.toNat:Int)=95:=by omega
        have hn:zS b=false:=by unfold zS;rw[hsb];simp;omega
        rw[hn,Bool.false_and]at hd;simp only[vW,seval,d3,eb,d4,d5,d6];rw[←hd]
      ·have d5:¬(57:Int)<(b.toNat:Int):=by omega
       have hn:zS b=true:=by unfold zS;simp;omega
       rw[hn,Bool.true_and]at hd;simp only[vW,seval,d3,eb,d4,d5,w4];refine zc ⟨k+1,hlt,hd⟩ (by show l.length-(k+1)<l.length-k;omega) ?_;exact lwA
    ·have hn:zS b=true:=by unfold zS;rw[hsb];rfl
     rw[hn,Bool.true_and]at hd;simp only[vW,seval,d3,eb,w4];refine zc ⟨k+1,hlt,hd⟩ (by show l.length-(k+1)<l.length-k;omega) ?_;exact lwA
   ·have d3:¬(k:Int)<(l.length:Int):=by omega
    rw[List.drop_eq_nil_of_le (by omega)]at hd;simp only[vW,seval,d3];rw[←hd];rfl
  ·have d2:(20:Int)<(l.length:Int):=by omega
   have hR:zb l=false:=by unfold zb;rw[decide_eq_false (by omega)];rfl
   rw[hR];unfold B;simp only[vW,seval,d1,d2]
 ·have d1:(l.length:Int)<1:=by omega
  have hR:zb l=false:=by unfold zb;rw[decide_eq_false (by omega)];rfl
  rw[hR];unfold B;simp only[vW,seval,d1]
theorem zcB(g:Sh.Glob)(l:zB)(hl:l.length<4611686018427387904):zC g 37 [.agg [S (str l),.pv (.v (.slice none 0 0))]] [] (B (zb l)) []:=by
 refine za tf_58 ?_;have HR:=z6f g l hl;unfold B at*;simp only[vW,seval];refine z7 HR ?_;cases zb l
 ·simp only[vW,seval]
 simp only[vW,seval];refine zk (σ:=Unit) (fun _=>⟨[(19,I 0),(20,I 0)],[],[],[]⟩) (fun _=>0) () ?_ ?_
 ·exact lwA
 rintro⟨⟩;simp only[vW,seval]
end Go.Proofs.YtpmlapgbmgbilaaGreatDoor
end

section
namespace Go.Mor
open Go
def z03(n b0 b1 b2 b3:Nat):Nat:=
 if b0<128 then 1
 else if 194≤b0∧b0≤223 then(if n<2∨b1<128∨191<b1 then 0 else 2)
 else if 224≤b0∧b0≤239 then(if n<3∨b1<(if b0=224 then 160 else 128)∨(if b0=237 then 159 else 191)<b1∨b2<128∨191<b2 then 0 else 3)
 else if 240≤b0∧b0≤244 then(if n<4∨b1<(if b0=240 then 144 else 128)∨(if b0=244 then 143 else 191)<b1∨b2<128∨191<b2∨b3<128∨191<b3 then 0 else 4)
 else 0
def z2E(l:zB):Nat:=if l=[] then 0 else z03 l.length (l.getD 0 0).toNat (l.getD 1 0).toNat (l.getD 2 0).toNat (l.getD 3 0).toNat
theorem zge(n b0 b1 b2 b3:Nat)(h0:b0<256)(h1:b1<256)(h2:b2<256)(h3:b3<256):
  z03 n b0 b1 b2 b3=if(Lib.decodeN n b0 b1 b2 b3).1=65533∧(Lib.decodeN n b0 b1 b2 b3).2=1 then 0 else(Lib.decodeN n b0 b1 b2 b3).2:=by
 unfold z03 Lib.decodeN
 repeat' split
 all_goals(simp_all<;>omega)
end Go.Mor
end

section
namespace Go.Proofs.YtpmlapgbmgbilaaGreatDoor
open Go Go.RowKit Go.Mor Go.Sh
section
open Go.Sh.Cd1
theorem z68(g:Sh.Glob)(a b:Int):zC g 105 [I a,I b] [] (I (z2k a b)) []:=by
 refine za tf_135 ?_;unfold z2k;by_cases h1:a<b
 ·simp only[vW,seval,h1]
 ·by_cases h2:b<a
  ·simp only[vW,seval,h1,h2]
  ·simp only[vW,seval,h1,h2]
end
section
def bindL:List (zB×Int):=[([42],4),([47],4),([37],4),([43],3),([45],3),([38],2),([61],1),([60,62],1),([60],1),([60,61],1),([62],1),([62,61],1)]
def zbr:List Value:=bindL.map fun p=> .string (str p.1)
def z0M:TV:=.mp zbr (bindL.map fun p=>I p.2)
theorem zac(g:Sh.Glob):zC g 137 [] [] z0M []:=by
 refine⟨z1k (by kernel_rfl),fun w E us hG hm hX hl hr=> ?_⟩;obtain rfl:us=[]:=List.eq_nil_of_length_eq_zero hl.symm;refine calls_of_wp Tryz.func137 rfl ?_;refine wp_seq (wp_region ?_);show wpOps _ _ _ [0] _ _;rw[wpOps_cons];refine z2v rfl rfl (v:=.map none) (w':=w) rfl ?_;show(Code.seq _ _).wp _ _ { tmps:= #[.map none,undef,undef],defers:=[] } _;refine wp_seq (wp_region ?_);show wpOps _ _ _ (0::([1,2,3,4,5,6,7,8,9,10,11,12]++[13,14])) _ _;rw[wpOps_cons];refine z2v rfl rfl (v:=.map (some w.heap.size)) (w':=w.alloc (.map #[] 0)) rfl ?_;have hnew:(w.alloc (.map #[] 0)).heap[w.heap.size]?=some (.map #[] 0):=heap_alloc_new w _;refine zdX (t:=213) (m:=1) (kt:=9) (et:=3) (text:=true) (b:=w.heap.size) (by kernel_rfl) (by kernel_rfl) rfl _ _ _ _ #[] 0 rfl hnew (by rfl) ?_;intro es clock w' hturn hb hks hvs;show wpOps _ _ _ [13,14] { tmps:= #[.map none,.map (some w.heap.size),undef],defers:=[] } _;rw[wpOps_cons];refine z2v rfl rfl (v:=.map (some w.heap.size)) (w':=w') rfl ?_;rw[wpOps_cons];refine z2v rfl rfl (v:=.map (some w.heap.size)) (w':=w') rfl ?_;show Code.ret.wp _ _ { tmps:= #[.map (some w.heap.size),.map (some w.heap.size),.map (some w.heap.size)],defers:=[] } _;refine wp_ret ?_
 have hbel:Below w.heap.size w w':=by
  refine⟨hturn.os,hturn.tape,hturn.output,by rw[hturn.size];exact(((Below.refl w.heap.size w)).alloc (Nat.le_refl _) (.map #[] 0)).size,fun k hk=> ?_⟩;rw[hturn.block k (by omega)];exact(((Below.refl w.heap.size w)).alloc (Nat.le_refl _) _).block k hk
 refine⟨rfl,.map (some w.heap.size),by simp[results,Tryz.results137],.map (some w.heap.size),E,rfl,?_,?_,⟨fun _ _ _=>rfl,fun _ _ _ _=>rfl,fun d e W n hd=>by obtain⟨j,_,hj⟩:=z0V hd;simp at hj⟩⟩
 ·exact MSim.ext (s:=⟨fun _=>none,z0q [],zA [],fun _=>none⟩) hm hbel E (fun _ _ h=>h) (fun _ _ h=> .inl h) (fun _ _=>⟨rfl,rfl⟩) (fun _ _ _=>rfl) (fun _ _=>⟨rfl,rfl⟩)
 ·have hlen:es.toList.length=12:=by have:=congrArg List.length hks;simpa using this
  refine .mp zbr _ w.heap.size es clock (fun j=>(es.toList.map MapEntry.val).getD j undef) hb hks rfl (fun j e he=>by simp[he]) (fun j x hx=> ?_);rw[hvs];have hj:j<12:=(gJ hx).1;simp only[bindL,List.getElem?_map]at hx
  match j,hj with
  |0,_|1,_|2,_|3,_|4,_|5,_|6,_|7,_|8,_|9,_|10,_|11,_=>cases hx;exact .pv (.v _)
theorem zp3(ids:List Nat):TV.m1 ids z0M=false:=rfl
theorem zp4(ids:List Nat):TV.m2 ids z0M=false:=rfl
theorem zp5(ids:List Nat):TV.m3 ids z0M=false:=rfl
theorem zhp:TV.ids1 z0M=[]:=rfl
theorem zhq:TV.ids2 z0M=[]:=rfl
theorem zhr:TV.ids3 z0M=[]:=rfl
theorem zhs(ρ:Nat→Option Nat):TV.ren1 ρ z0M=some z0M:=rfl
theorem zht(ρ:Nat→Option Nat):TV.ren2 ρ z0M=some z0M:=rfl
theorem zhu(ρ:Nat→Option Nat):TV.ren3 ρ z0M=some z0M:=rfl
theorem zeJ:TV.cells z0M=some [z0M]:=rfl
theorem zoy(a b:zB):Instr.sameNow (kdOf true) (.string (str a)) (.string (str b))=some (a==b):=by
 have:(str a==str b)=(a==b):=by
  show(a.toArray==b.toArray)=(a==b)
  simp
 first
  |(simp[Instr.sameNow,kdOf,this];done)
  |(simp[Instr.sameNow,kdOf];exact this)
theorem zho(s:zB):∀(l:List (zB×Int)) (i:Nat),findKs (kdOf true) (.string (str s)) (l.map fun p=> .string (str p.1)) i=some ((l.findIdx? fun p=>s==p.1).map (·+i))
 |[],i=>rfl
 |p::l,i=>by
  rw[List.map_cons,findKs,zoy,List.findIdx?_cons];cases h:(s==p.1)with
  |true=>simp
  |false=>
   simp only[Bool.false_eq_true,if_false,zho s l (i+1),Option.map_map];congr 2;funext j;simp;omega
theorem zp2(s:zB):zfy true (.int .i64 0) (some z0M) (some (.string (str s)))=some (.pv (.v (.int .i64 (zM s))),.no):=by
 show zaU _ _ (findKs (kdOf true) (.string (str s)) zbr 0)=_;unfold zbr;rw[zho s bindL 0];simp only[bindL,List.findIdx?_cons,List.findIdx?_nil,zM];by_cases h1:s=[42];· subst h1;rfl
 by_cases h2:s=[47];· subst h2;rfl
 by_cases h3:s=[37];· subst h3;rfl
 by_cases h4:s=[43];· subst h4;rfl
 by_cases h5:s=[45];· subst h5;rfl
 by_cases h6:s=[38];· subst h6;rfl
 by_cases h7:s=[61];· subst h7;rfl
 by_cases h8:s=[60,62];· subst h8;rfl
 by_cases h9:s=[60];· subst h9;rfl
 by_cases h10:s=[60,61];· subst h10;rfl
 by_cases h11:s=[62];· subst h11;rfl
 by_cases h12:s=[62,61];· subst h12;rfl
 simp[h1,h2,h3,h4,h5,h6,h7,h8,h9,h10,h11,h12,zaU,zeroT]
theorem bmV:(type_of% @zp3)∧(type_of% @zp4)∧(type_of% @zp5)∧(type_of% @zhp)∧(type_of% @zhq)∧(type_of% @zhr)∧(type_of% @zhs)∧(type_of% @zht)∧(type_of% @zhu)∧(type_of% @zeJ)∧(type_of% @zp2):=⟨@zp3,@zp4,@zp5,@zhp,@zhq,@zhr,@zhs,@zht,@zhu,@zeJ,@zp2⟩
section
variable{g:Sh.Glob}{f m:Nat}{dst fp:Option Nat}{xs:List Arg}{xs':List TV}{I:List Nat}{os os':List MO}{y:TV}{l:List SOper}{K:ES→Prop}{s s':ES}{G:Prop}
theorem zK(hc:zC g f xs' os y os')(hk:zQ Tryz.prog g l K s')(hx:callIn s m xs=some (xs',os,I):=by simp only[vW,seval,bmV];rfl)(hfp:z4V fp I=true:=by rfl)(hmo:moOk os os'=true:=by first|rfl|(simp only[vcA,seval];omega))(hs:callOut s dst I y os'=some s':=by simp only[vW,seval,bmV];rfl):
  zQ Tryz.prog g (⟨dst,none,fp,.call f m xs⟩::l) K s:=zF hx hfp hc hmo hs hk
theorem z07(hc:zC g f xs' os y os')(h:G)(hx:callIn s m xs=some (xs',os,I):=by simp only[vW,seval,bmV];rfl)(hfp:z4V fp I=true:=by rfl)(hmo:moOk os os'=true:=by first|rfl|(simp only[vcA,seval];omega))(hs:callOut s dst I y os'=some s':=by simp only[vW,seval,bmV];rfl)(hr:zQ Tryz.prog g l K s'=G:=by simp only[vW,seval,bmV];rfl):
  zQ Tryz.prog g (⟨dst,none,fp,.call f m xs⟩::l) K s:=zF hx hfp hc hmo hs (hr▸h)
theorem z4S(hc:zC g f xs' os y os')(hx:callIn s m xs=some (xs',os,I):=by simp only[vW,seval,bmV];rfl)(hfp:z4V fp I=true:=by rfl)(hmo:moOk os os'=true:=by first|rfl|(simp only[vcA,seval];omega))(hs:callOut s dst I y os'=some s':=by simp only[vW,seval,bmV];rfl)(hr:zQ Tryz.prog g l K s':=by simp only[vW,seval,bmV]):
  zQ Tryz.prog g (⟨dst,none,fp,.call f m xs⟩::l) K s:=zF hx hfp hc hmo hs hr
end
end
end Go.Proofs.YtpmlapgbmgbilaaGreatDoor
end

section
namespace Go.Sh.Cd5
open Go Go.Sh
abbrev gQ(a:GA):Prop:=gT Go.Proofs.Tryz.prog a
theorem gK{a:GA}(h:gQ a:=by unfold gQ gT;kernel_rfl):gQ a:=h
theorem tf_140:gQ ⟨83,56,[],[],[[2],[6012],[0,13],[2,13],[14016],[2,18019,55],[17,20029],[30045],[4005,46054],[0,3,55],[0,3]],[.tmp 2],false⟩:=gK
abbrev c_98_0:=kV [2,3,4] [oD 2 (.new zV),oD 3 (.new [(.int .i64 0)]),oD 4 (.new [(.int .i64 0)])] []
abbrev c_98_1:=kR [oM 10 0,oD 11 (.slen (.tmp 10)),kK 12 .gtr 3 11 200] [10,11]
abbrev c_98_2:=kR [oD 13 (.build zV []),kS 4 2 13,oN (.st 1 (.tmp 3) (vI 200)),oN (.st 1 (.tmp 4) (vI 50))] [0,12,13]
abbrev c_98_3:=kV [2068,2069,2070,2071,5] [oM 14 0,oD 15 (.slen (.tmp 14)),oD 16 (.build [(.slice none 0 0),(.int .i64 0),(.int .i64 0)] [(2,1,(.tmp 15))]),oD 17 (.call 137 0 []),oD 18 (.build [(.slice none 0 0),(.int .i64 0),(.int .i64 0),(.map none)] [(0,3,(.tmp 16)),(3,1,(.tmp 17))]),oD 5 (.new [(.slice none 0 0),(.int .i64 0),(.int .i64 0),(.map none)]),kS 4 5 18] [12,14,15,16,17,18]
abbrev c_98_4:=kV [2080,2081,2082,2083] [oM 19 0,kC 20 138 0 19] [0,19]
abbrev c_98_5:=kV [2148,2149,2150,2151,7] [kC 37 139 1 5,oM 36 37,kY 38 36 0,kY 39 36 1,kY 40 36 2,oD 7 (.new zV),kS 4 7 38,oM 8 39,oM 9 40] [5,20,36,37,38,39,40]
abbrev c_98_6:=kR [oM 41 9,kN 42 41] [9,41]
abbrev c_98_7:=kR [oD 43 (.build zV []),oM 44 8,kS 4 2 43,kS 1 3 44,oN (.st 1 (.tmp 4) (vI 50))] [7,8,42,43,44]
abbrev c_98_8:=kV [2184,2185,2186,2187] [oL 45 true 4 7,kC 46 140 0 45,kN 47 46] [8,42,45,46]
abbrev c_98_9:=kR [oD 48 (.build zV []),kS 4 2 48,oN (.st 1 (.tmp 3) (vI 0)),oN (.st 1 (.tmp 4) (vI 51))] [7,47,48]
abbrev c_98_10:=kR [oL 49 true 4 7,kS 4 2 49,oN (.st 1 (.tmp 3) (vI 0)),oN (.st 1 (.tmp 4) (vI 0))] [7,47,49]
noncomputable abbrev F_98:SFunc:=⟨50,(.seq c_98_0 (.seq (.seq c_98_1 (.cond (.tmp 12) (.seq c_98_2 .ret) .skip)) (.seq c_98_3 (.seq (.seq c_98_4 (.block 0 (.raw 50 (z6C Go.Proofs.Tryz.prog 101 0)))) (.seq c_98_5 (.seq (.seq c_98_6 (.cond (.tmp 42) (.seq c_98_7 .ret) .skip)) (.seq (.seq c_98_8 (.cond (.tmp 47) (.seq c_98_9 .ret) .skip)) (.seq c_98_10 .ret)))))))),[.cell true 4 2,.cell false 1 3,.cell false 1 4],false⟩
theorem tf_98:zW Go.Proofs.Tryz.prog 101 (z3D [(17,0),(20,0),(32,0),(37,1),(46,0)]) (fpT []) (z3E [(1,[10,11]),(2,[0,12,13]),(3,[12,14,15,16,17,18]),(4,[0,19]),(9,[5,20,36,37,38,39,40]),(10,[9,41]),(11,[7,8,42,43,44]),(12,[8,42,45,46]),(13,[7,47,48]),(14,[7,47,49])]) false=some F_98:=by kernel_rfl
theorem tf_147:gQ ⟨110,6,[],[],[[0,2],[1,3005]],[.tmp 2],false⟩:=gK
theorem tf_101:gQ ⟨138,4,[],[],[[0,2],[1,3]],[.tmp 2],false⟩:=gK
theorem tf_99:gQ ⟨140,8,[(7,1)],[],[[0,2],[4005],[1,3,6007]],[.tmp 2],false⟩:=gK
theorem tf_145:gQ ⟨149,20,[],[],[[2],[0],[5],[6],[7],[3004],[4,9],[10],[3,8],[8,12],[3,11],[11,14],[15],[16],[17],[18],[3,19],[3,13],[3,13]],[.tmp 2],false⟩:=gK
theorem tf_151:gQ ⟨151,42,[],[],[[0,6],[8017],[1003,18],[6,18020],[],[21028],[30031],[29,32040],[1003,7,41]],[.tmp 6],false⟩:=gK
theorem tf_102:gQ ⟨165,42,[(33,1)],[],[[],[6014],[15017],[18020],[21028],[29030],[4,31037],[5,38041]],[],false⟩:=gK
theorem tf_103:gQ ⟨166,47,[],[],[[3],[6007],[9014],[0,4,8,15018],[8,20025],[0,4,19,26029],[4,19,31032],[0,30,33036],[0,3,30,37039],[40],[5,41042],[5,41,43046]],[.cell true 4 2,.tmp 3],false⟩:=gK
theorem tf_26:gQ ⟨168,48,[(9,3),(13,1),(45,3)],[(7,[[(1,6),(2,5),(9,5),(6,1000)]])],[[],[8009,2009999],[10013],[14020],[21027],[1000001,5007,28029],[28,30038],[6007,39047,2009999]],[.cell true 4 4],false⟩:=gK
theorem tf_30:gQ ⟨169,28,[],[],[[],[3011],[0,12022],[0,12,23027]],[.cell true 4 2],false⟩:=gK
theorem tf_25:gQ ⟨170,45,[(28,1),(42,1)],[],[[1,6],[9015],[16029],[0,2,4,30],[4,6,30031],[],[35037],[8,38042],[0,2,32034,43],[6,43044],[0,2,32034]],[.tmp 6],false⟩:=gK
theorem tf_136:gQ ⟨176,138,[],[],[[0,2],[6],[9],[1,7008,10023],[8,25],[1,7,24,26044],[24,46],[7,45,47049],[1,3,50067],[45,69],[70],[1,7,68,71099],[7,68,101],[100,102114],[1,115],[2,115],[116119],[2,121122,137],[120,123128],[1,4,129],[2,129135],[5,136],[1,4,137],[1,4],[1,100]],[.tmp 2],false⟩:=gK
theorem tf_144:gQ ⟨178,17,[],[],[[2],[0],[5],[6],[7],[3004],[4,9],[10],[11],[12],[13],[14],[3,8],[3,8,16],[15],[15]],[.tmp 2],false⟩:=gK
theorem tf_150:gQ ⟨181,112,[],[],[[0,2],[3],[6],[1,4005,7025],[5,27],[1,4,26,28042],[26,44],[1,4,43,45058],[43,60],[1,4,59,61075],[59,77],[1,4,76,78091],[4,76,93],[1,92,94111],[1,92]],[.tmp 2],false⟩:=gK
theorem tf_105:gQ ⟨207,39,[],[],[[3],[],[6020],[21030],[31032],[0,33],[4005,34035],[4005,34,36038]],[.cell true 4 2,.tmp 3],false⟩:=gK
theorem tf_104:gQ ⟨208,52,[],[],[[3],[],[5037],[38040],[41044],[0,4,45046],[0,4,45,47051]],[.cell true 4 2,.tmp 3],false⟩:=gK
theorem tf_106:gQ ⟨209,55,[(19,0),(52,0)],[],[[3],[],[],[6008],[10011],[9,12013],[16],[0,14015,17019],[4005,20021],[4005,20,22026],[14015,28],[27,29030],[31045],[0,4005,46047],[3,27,46,48053],[0,4005,54]],[.cell true 4 2,.tmp 3],false⟩:=gK
theorem tf_100:gQ ⟨210,27,[],[],[[4],[],[1],[],[11013],[14022],[7,23024],[7,23,25],[0,5,8010,26]],[.tmp 4],false⟩:=gK
theorem tf_28:gQ ⟨211,75,[(9,1),(11,3),(15,3),(20,1),(22,3),(28,1),(61,1),(67,3)],[(17,[[(1,4),(6,2),(4,1000)]])],[[],[6008],[9011,2009999],[0,12015,2009999],[3,16],[9,17019],[0,20024,2009999],[20,25028],[29037],[38],[41],[0,4,39040,42044],[40,46],[0,4,39,45,47049],[39,45,51],[50,52054],[55061],[0,4005,62068,2009999],[0,4005,62,69071],[0,4,50,72074,2009999]],[.cell true 4 2],false⟩:=gK
theorem tf_24:gQ ⟨212,100,[],[],[[1,4],[5011],[0,3,12],[4,12013],[16],[0,3,14015,17035],[15,37],[0,3,14,36,38046],[36,48],[0,3,14,47,49057],[47,59],[0,3,14,58,60073],[0,58,75],[3,14,74,76084],[14,74,86],[3,85,87099],[3,85]],[.tmp 4],false⟩:=gK
theorem tf_107:gQ ⟨227,6,[],[],[[2],[0,3005]],[.tmp 2],false⟩:=gK
theorem tf_108:gQ ⟨228,6,[],[],[[2],[0,3005]],[.tmp 2],false⟩:=gK
theorem tf_192:gQ ⟨229,8,[],[],[[4],[1000001,5007]],[.tmp 4],false⟩:=gK
theorem tf_31:gQ ⟨230,24,[(7,1)],[],[[4],[6007],[1,5,8015],[0,16],[0,4,16023]],[.tmp 4],false⟩:=gK
theorem tf_29:gQ ⟨231,12,[(6,1),(9,1)],[],[[1,4006],[0,7011,2009999]],[],false⟩:=gK
theorem tf_109:gQ ⟨232,17,[],[],[[2],[0],[5],[6],[7],[3004],[4,9],[10],[11],[12],[13],[14],[3,8],[3,8,16],[15],[15]],[.tmp 2],false⟩:=gK
theorem tf_27:gQ ⟨233,28,[(16,3),(19,3),(20,0),(26,3)],[],[[4],[],[1],[],[9010],[6,11],[12016,2009999],[12,17021,2009999],[22],[0,7008,23026,2009999],[5,27]],[.tmp 4],false⟩:=gK
theorem tf_121:gQ ⟨243,18,[],[],[[4],[1000001,5017]],[.tmp 4],false⟩:=gK
noncomputable def funcs:Nat→Option SFunc
 |_=>none
end Go.Sh.Cd5
end

section
namespace Go.Proofs.YtpmlapgbmgbilaaGreatDoor
open Go Go.RowKit Go.Mor Go.Sh Go.Sh.Cd1 Go.Sh.Cd5
def pcR(q:Pc):List PV:=[.v (.int .i64 q.k),.v (.int .i64 q.n),.v (.string (str q.s)),.v (.int .i64 (q.p:Int))]
def pcT(q:Pc):TV:=.agg [I q.k,I q.n,S (str q.s),I (q.p:Int)]
def pcs(L:List Pc):TV:=.pv (.sl 4 (L.map pcR))
def pB(L:List Pc)(p sz:Nat):List TV:=[pcs L,I (p:Int),I (sz:Int),z0M]
theorem z55(g:Sh.Glob)(L:List Pc)(p sz:Nat)(hL:L.length≤maxLen):zC g 169 [.ptr 1000 0] [.box (pB L p sz)] (pcT (pkP L sz p)) [.box (pB L p sz)]:=by
 refine zj tf_30 ?_;unfold pB pcs pcT;by_cases hlt:p<L.length
 ·have d1:(p:Int)<(L.length:Int):=by omega
  obtain⟨q,eq⟩:∃q,L[p]?=some q:=⟨_,gE hlt⟩
  have hq:pkP L sz p=q:=by simp[pkP,eq]
  rw[hq];simp only[vW,seval,d1,eq,pcR,bmV]
 ·have d1:¬(p:Int)<(L.length:Int):=by omega
  have hq:pkP L sz p=⟨0,0,[],sz⟩:=by simp[pkP,List.getElem?_eq_none (Nat.le_of_not_lt hlt)]
  rw[hq];simp only[vW,seval,d1,bmV];rfl
theorem z4t(g:Sh.Glob)(L:List Pc)(p sz:Nat)(t:zB)(hL:L.length≤maxLen)(hp:p<maxLen):zC g 230 [.ptr 1000 0,S (str t)] [.box (pB L p sz)] (B (z01 (pkP L sz p) t)) [.box (pB L (if z01 (pkP L sz p) t then p+1 else p) sz)]:=by
 refine zj tf_31 ?_;have HP:=z55 g L p sz hL;have w1:IntKind.i64.wrap ((p:Int)+1)=((p+1:Nat):Int):=by unfold maxLen at hp;rw[wrap64 (by omega) (by omega)];omega
 unfold z01 at*;generalize pkP L sz p=q at*;unfold pB pcs pcT B at*;by_cases hk:q.k=4
 ·have hb:(q.k==4)=true:=by simp[hk]
  cases ht:q.s==t
  ·simp only[vW,seval];refine zK HP ?_;simp only[vW,seval,bmV,hk,hb,ht]
  ·simp only[vW,seval];refine zK HP ?_;simp only[vW,seval,bmV,hk,hb,ht,w1]
 ·have hb:(q.k==4)=false:=by simp[hk]
  simp only[vW,seval];refine zK HP ?_;simp only[vW,seval,bmV,hk,hb]
def zX(a:Nat):Value:=.iface 251 (.int .i64 (a:Int))
theorem z9K(g:Sh.Glob)(L:List Pc)(p sz:Nat)(t:zB)(hL:L.length≤maxLen)(hp:p<maxLen)(h:z01 (pkP L sz p) t=true):zC g 231 [.ptr 1000 0,S (str t)] [.box (pB L p sz)] (.tuple []) [.box (pB L (p+1) sz)]:=by
 refine zj tf_29 ?_;have HT:=z4t g L p sz t hL hp;rw[h,if_pos rfl]at HT;unfold pB pcs B at*;simp only[vW,seval];exact z4S HT
theorem zaW(g:Sh.Glob)(L:List Pc)(p sz:Nat)(t:zB)(hL:L.length≤maxLen)(hp:p<maxLen)(h:z01 (pkP L sz p) t=false):z8o Tryz.prog g 231 [.ptr 1000 0,S (str t)] [.box (pB L p sz)] (zX (pkP L sz p).p) [.box (pB L p sz)]:=by
 refine z8X ze tf_29 rfl rfl rfl ?_
 conv in SFunc.code _=>reduce
 have HT:=z4t g L p sz t hL hp;have HP:=z55 g L p sz hL;rw[h,if_neg (by simp)]at HT;unfold pB pcs B pcT zX at*;simp only[vW,seval];refine z07 HT ?_;(with_reducible apply z4R);simp only[vW,seval];(with_reducible apply zmI);(· simp only[vW,seval,bmV];with_reducible rfl);(· rfl);(· exact HP);(· first|rfl|(simp only[vcA,seval];omega));(· simp only[vW,seval,bmV];with_reducible rfl);simp only[vW,seval,bmV]
theorem zbd(g:Sh.Glob)(s:zB):zC g 232 [S (str s)] [] (I (zt s)) []:=by
 refine za tf_109 ?_;have q1:=bS [108,101,110];have q2:=bS [116,101,120,116];have q3:=bS [110,117,109];have q4:=bS [108,101,102,116];have q5:=bS [114,105,103,104,116];have q6:=bS [102,114,111,109];have q7:=bS [102,105,110,100];have q8:=bS [109,105,110];have q9:=bS [109,97,120];have q10:=bS [105,102];have hb:∀t:zB,(s==t)=decide (s=t):=fun t=>by rw[Bool.eq_iff_iff];simp
 unfold zt;simp only[vW,seval,q1,q2,q3,q4,q5,q6,q7,q8,q9,q10,hb]
 repeat' (first|(apply And.intro)|(intro _))
 all_goals simp_all
end Go.Proofs.YtpmlapgbmgbilaaGreatDoor
end
