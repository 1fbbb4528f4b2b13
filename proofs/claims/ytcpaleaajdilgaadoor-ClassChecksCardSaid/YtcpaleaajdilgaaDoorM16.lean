/- Merged texts: Ze0 Cd6 Zg1 OpenC OpenN Wire1 Wire2 Wire3. No statement of the program is proved here. -/
import Derived.Test.YtcpaleaajdilgaaDoorM14
import Derived.Test.YtcpaleaajdilgaaDoorM15
import Derived.RangeFuncNested
import Derived.RangeFuncBound
import Derived.RangeFuncCalls
import Derived.RangeFuncLeaves
import Derived.RangeFuncBox
import Derived.Shelf.Abstract
import Derived.Shelf.RegionOpen
import Derived.OwnWalkIn
import Derived.TacticsInMore
import Derived.LoopNIn
import Derived.LoopIn
import Derived.Maps.AppendAt
import Derived.LaidEql
import Derived.Stop.Asserts
import Derived.RowKitTokens
set_option linter.unusedSimpArgs false
set_option linter.unusedVariables false
set_option maxRecDepth 100000
set_option maxHeartbeats 8000000
section
namespace Go.Proofs.YtcpaleaajdilgaaDoor
open Go Go.RowKit Go.Mor Go.Sh Go.Sh.Cd1 Go.Sh.Cd4
theorem z2b{l:zB}{k:Nat}{c:UInt8}(h:l[k]?=some c):l.drop k=c::l.drop (k+1):=by
 obtain⟨hk,he⟩:=gJ h;rw[List.drop_eq_getElem_cons hk,he]
theorem z6z(g:Sh.Glob)(b:UInt8):zC g 48 [.pv (.v (.int .u8 (b.toNat:Int)))] [] (B (z08 b)) []:=by
 refine za tf_14 ?_;unfold z08 B;by_cases q1:97≤b.toNat
 ·have d1:(97:Int)≤(b.toNat:Int):=by omega
  have q2:decide ((b.toNat:Int)≤122)=decide (b.toNat≤122):=by rw[Bool.eq_iff_iff];simp;omega
  simp only[vW,seval,d1,q2,q1];first|done|simp
 ·have d1:¬(97:Int)≤(b.toNat:Int):=by omega
  simp only[vW,seval,d1,q1];first|done|simp
theorem z3v(g:Sh.Glob)(l:zB)(hl:l.length<4611686018427387904):zC g 31 [S (str l)] [] (B (zm l)) []:=by
 refine za tf_13 ?_;by_cases h1:1≤l.length
 ·have d1:¬(l.length:Int)<1:=by omega
  by_cases h20:l.length≤20
  ·have d2:¬(20:Int)<(l.length:Int):=by omega
   obtain⟨c,r,rfl⟩:∃c r,l=c::r:=List.exists_cons_of_ne_nil (by rintro rfl;simp at h1);have HS:=z6z g c;unfold B at HS ⊢;have e0:(c::r)[0]?=some c:=rfl;have hR:zm (c::r)=(z08 c&&(c::r).all zD):=by
    unfold zm;rw[decide_eq_true ⟨h1,h20⟩];simp
   rw[hR];generalize hL:c::r=l at*;simp only[vW,seval,d1,d2,e0];refine z6 HS ?_;cases hs:z08 c
   ·simp only[vW,seval]
   simp only[vW,seval,d1,d2];refine zE (σ:={ k:Nat // k≤l.length∧(l.drop k).all zD=l.all zD })
    (fun k=>⟨[(0,S (str l)),(19,I (l.length:Int)),(20,I (k.1:Int))],[],[],[]⟩) (fun k=>l.length-k.1) ⟨0,Nat.zero_le _,rfl⟩ ?_ ?_
   ·exact lwA
   rintro⟨k,hk,hd⟩;by_cases hlt:k<l.length
   ·have d3:(k:Int)<(l.length:Int):=by omega
    obtain⟨b,eb⟩:∃b,l[k]?=some b:=⟨_,gE hlt⟩
    rw[z2b eb,List.all_cons]at hd;have hbn:=b.toNat_lt;have HB:=z6z g b;unfold B at HB;have w4:=wS k;simp only[vW,seval,d3,eb];refine z6 HB ?_;cases hsb:z08 b
    ·by_cases q1:b.toNat<48
     ·have d4:(b.toNat:Int)<48:=by omega
      have d6:¬(b.toNat:Int)=95:=by omega
      have hn:zD b=false:=by unfold zD;rw[hsb];simp;omega
      rw[hn,Bool.false_and]at hd;simp only[vW,seval,d3,eb,d4,d6];rw[←hd]
     ·have d4:¬(b.toNat:Int)<48:=by omega
      by_cases q2:57<b.toNat
      ·have d5:(57:Int)<(b.toNat:Int):=by omega
       by_cases q3:b.toNat=95
       ·have d6:(b.toNat:Int)=95:=by omega
        have hn:zD b=true:=by unfold zD;simp[q3]
        rw[hn,Bool.true_and]at hd;simp only[vW,seval,d3,eb,d4,d5,d6,w4];refine zc ⟨k+1,hlt,hd⟩ (by show l.length-(k+1)<l.length-k;omega) ?_;exact lwA
       ·have d6:¬(b.toNat:Int)=95:=by omega
        have hn:zD b=false:=by unfold zD;rw[hsb];simp;omega
        rw[hn,Bool.false_and]at hd;simp only[vW,seval,d3,eb,d4,d5,d6];rw[←hd]
      ·have d5:¬(57:Int)<(b.toNat:Int):=by omega
       have hn:zD b=true:=by unfold zD;simp;omega
       rw[hn,Bool.true_and]at hd;simp only[vW,seval,d3,eb,d4,d5,w4];refine zc ⟨k+1,hlt,hd⟩ (by show l.length-(k+1)<l.length-k;omega) ?_;exact lwA
    ·have hn:zD b=true:=by unfold zD;rw[hsb];rfl
     rw[hn,Bool.true_and]at hd;simp only[vW,seval,d3,eb,w4];refine zc ⟨k+1,hlt,hd⟩ (by show l.length-(k+1)<l.length-k;omega) ?_;exact lwA
   ·have d3:¬(k:Int)<(l.length:Int):=by omega
    rw[List.drop_eq_nil_of_le (by omega)]at hd;simp only[vW,seval,d3];rw[←hd];rfl
  ·have d2:(20:Int)<(l.length:Int):=by omega
   have hR:zm l=false:=by unfold zm;rw[decide_eq_false (by omega)];rfl
   rw[hR];unfold B;simp only[vW,seval,d1,d2]
 ·have d1:(l.length:Int)<1:=by omega
  have hR:zm l=false:=by unfold zm;rw[decide_eq_false (by omega)];rfl
  rw[hR];unfold B;simp only[vW,seval,d1]
end Go.Proofs.YtcpaleaajdilgaaDoor
end

section
namespace Go.Sh.Cd6
open Go Go.Sh
abbrev gQ(a:GA):Prop:=gT Go.Proofs.Tryd.prog a
theorem gK{a:GA}(h:gQ a:=by unfold gQ gT;kernel_rfl):gQ a:=h
theorem tf_15:gQ ⟨3,104,[(23,0),(27,0),(30,0),(41,1),(49,0),(54,0),(55,0),(64,1),(66,0),(67,0),(73,0),(75,0),(84,0),(90,0)],[],[[1000001,4,10],[23],[24],[2003,5006,9,11,25],[5,10,25027],[2,28030],[31038],[39],[40041],[42043],[44051],[6,12,44,52054],[],[58060],[61074],[],[78080],[81086],[18,87092],[19022,93099],[3,9,11,13014,16,55057,75077,100],[10,100101],[16,75077,102],[3,9,11,13014,55057,103]],[.tmp 10],false⟩:=gK
theorem tf_16:gQ ⟨5,81,[(10,0),(11,0),(14,0),(37,0),(42,0),(52,0),(69,0),(77,0)],[],[[0],[10],[11017],[],[18025],[7,27028,73],[26,29033],[34045],[46048],[49055],[6,49,56064],[8,65071],[9,72],[7,73079],[1,3005,80]],[.cell true 2 2],false⟩:=gK
theorem tf_18:gQ ⟨6,43,[(39,0),(40,0)],[],[[0,6],[],[],[10013],[15016],[14,17],[18019],[20029],[9,20,30041],[1003,7008,42]],[.tmp 6],false⟩:=gK
theorem tf_21:gQ ⟨7,13,[],[],[[4],[5],[6009],[1000001,6,10012]],[.tmp 4],false⟩:=gK
theorem tf_19:gQ ⟨8,49,[(19,1)],[],[[0],[4011],[12020],[],[21024],[26027],[25,28047],[1,3,48]],[.cell true 2 2],false⟩:=gK
theorem tf_2:gQ ⟨9,41,[],[],[[0,4005],[8009],[1002,10],[4005,10015],[1002,16022],[2,4005,16,23],[],[27030],[7,31037],[1,6,24026,38039],[4006,38,40],[1,24026]],[.tmp 4,.tmp 5],false⟩:=gK
theorem tf_29:gQ ⟨10,49,[],[],[[0,4005],[7008],[1002,9],[4005,9014],[1002,15021],[4005,15],[22024],[4005,26027,47],[25,28046],[1002,6,47048],[1002,6]],[.tmp 4,.tmp 5],false⟩:=gK
theorem tf_5:gQ ⟨13,14,[(10,1)],[],[[1000001,4005],[2003,7010],[11],[6,12],[6,12013]],[.tmp 4,.tmp 5],false⟩:=gK
theorem tf_7:gQ ⟨15,39,[],[],[[0,2],[7015],[1,16],[2,16017],[],[21024],[25026],[1,3004,18020,27],[2,4,6,27034],[3,5,35036],[1,18020,37],[2,37038],[1,18020]],[.tmp 2],false⟩:=gK
theorem tf_8:gQ ⟨16,27,[],[],[[0,2],[3004],[1,5013],[1,5,14026]],[.tmp 2],false⟩:=gK
theorem tf_30:gQ ⟨18,23,[],[],[[0,4005],[],[7010],[4005,12013,21],[11,14020],[1002,6,21022],[1002,6]],[.tmp 4,.tmp 5],false⟩:=gK
theorem tf_17:gQ ⟨19,67,[(10,0),(16,0),(23,0),(34,0),(42,0),(48,0),(62,0),(63,0)],[],[[0],[10],[11],[14],[1003,7,12013,15018],[13,20],[1003,7,12,19,21026],[7,19,28],[12,29],[12,27,30035],[1003,36037],[1003,36,38044],[12,27,45],[],[46048],[50051],[49,52065],[1003,8009,66]],[.cell true 4 6],false⟩:=gK
theorem tf_32:gQ ⟨21,62,[],[],[[0,2],[6014],[1,15],[2,15],[16019],[4005,21022],[20,23027],[28046],[1,3004,47],[2,47],[48049],[2,51052,61],[50,53060],[1,3005,61],[1,3]],[.tmp 2],false⟩:=gK
theorem tf_38:gQ ⟨29,19,[(16,1)],[],[[4],[6],[],[9010],[11015],[1000001,5,7008,16017],[4005,16,18],[1000001,7008]],[.tmp 4],false⟩:=gK
theorem tf_6:gQ ⟨30,8,[],[],[[0,3],[1002,4007]],[.tmp 3],false⟩:=gK
theorem tf_13:gQ ⟨31,47,[],[],[[2],[4016],[0,17],[2,17018],[],[21022],[3,23044],[0,19020,45],[2,45046],[0,19020]],[.tmp 2],false⟩:=gK
theorem tf_12:gQ ⟨32,22,[],[],[[0,2],[3011],[1,12],[1,12021]],[.tmp 2],false⟩:=gK
theorem tf_33:gQ ⟨40,21,[],[],[[0,2],[1,3020]],[.tmp 2],false⟩:=gK
theorem tf_14:gQ ⟨48,9,[],[],[[2],[0,3008]],[.tmp 2],false⟩:=gK
theorem tf_35:gQ ⟨54,9,[],[],[[2],[0,3008]],[.tmp 2],false⟩:=gK
noncomputable def funcs:Nat→Option SFunc
 |_=>none
end Go.Sh.Cd6
end

section
namespace Go.Proofs.YtcpaleaajdilgaaDoor
open Go Go.RowKit Go.Mor Go.Sh Go.Sh.Cd1 Go.Sh.Cd6
def flR1(f:Fld):List PV:=[.v (.string (str f.n)),.v (.int .i64 f.t.k),.v (.int .i64 f.t.o),.v (.bool f.ix)]
def flR(l:List Fld):List (List PV):=l.map flR1
def flT(f:Fld):TV:=.agg [S (str f.n),I f.t.k,I f.t.o,.pv (.v (.bool f.ix))]
def clT(c:Cls):TV:=.agg [S (str c.n),.pv (.sl 4 (flR c.fs))]
theorem z5T(l:List Fld)(k:Nat):(flR l)[k]?=(l[k]?).map flR1:=by unfold flR;rw[List.getElem?_map]
theorem z3I(l:List Fld):(flR l).length=l.length:=by unfold flR;rw[List.length_map]
theorem clV:(type_of% @z5T)∧(type_of% @z3I)∧(type_of% @flR1.eq_1)∧(type_of% @flT.eq_1)∧(type_of% @clT.eq_1):=⟨@z5T,@z3I,@flR1.eq_1,@flT.eq_1,@clT.eq_1⟩
def z2I(s:zB):Prop:=s.length<4611686018427387904
structure ClsOk(c:Cls):Prop where
 n:z2I c.n
 fs:∀f∈c.fs,z2I f.n
 len:c.fs.length≤4611686018427387904
theorem z5P(g:Sh.Glob)(t:Ty):zC g 16 [tyT t] [] (B (zf t)) []:=by
 refine za tf_8 ?_;obtain⟨k,o⟩:=t;unfold B;simp only[vW,seval];unfold zf
 repeat' (first|(apply And.intro)|(intro _))
 all_goals(first|(simp_all;done)|(simp_all;omega))
theorem z8p(g:Sh.Glob)(f:Fld)(s:zB):zC g 30 [flT f,.ptr 1000 0] [.box [S (str s)]] (B (f.n==s)) [.box [S (str s)]]:=by
 refine z2E tf_6 ?_;unfold B;simp only[vW,seval,clV]
theorem z6P(g:Sh.Glob)(l:List Fld)(s:zB)(hl:l.length≤maxLen):zC g 29 [.pv (.sl 4 (flR l)),.fn (.func 30) [] [.ptr 1000 0]] [.box [S (str s)]] (I (fieldAt l s)) [.box [S (str s)]]:=by
 refine z2E tf_38 ?_;have hm:maxLen=9223372036854775807:=rfl;simp only[vW,seval,clV];refine zE (σ:={i:Nat // i≤l.length∧∀j x,j<i→l[j]?=some x→(x.n==s)=false}) (fun i=>⟨[(0,.pv (.sl 4 (flR l))),(1,.fn (.func 30) [] [.ptr 1000 0]),(7,I (l.length:Int)),(8,I (i.1:Int))],[(1000,[S (str s)])],[],[]⟩) (fun i=>l.length-i.1) ⟨0,Nat.zero_le _,fun j x hj=>by omega⟩ (z1C (by simp[I,S])) ?_;rintro⟨i,hi,hno⟩;by_cases hlt:i<l.length
 ·have d1:(i:Int)<(l.length:Int):=by omega
  obtain⟨x,ex⟩:∃x,l[i]?=some x:=⟨_,gE hlt⟩
  have HN:=z8p g x s;have w1:=wS i;unfold flT B at HN;simp only[vW,seval,d1,ex,clV];(with_reducible apply z5d);exact kv;exact HN;rfl;exact kv;cases hp:(x.n==s)
  ·simp only[vW,seval,w1];refine zc ⟨i+1,by omega,fun j y hj hy=> ?_⟩ (by show l.length-(i+1)<l.length-i;omega) ?_
   ·by_cases hji:j=i
    ·subst hji;rw[ex]at hy;cases hy;exact hp
    ·exact hno j y (by omega) hy
   ·exact lwA
  ·simp only[vW,seval];unfold fieldAt;rw[z0O (fun f=>f.n==s) l i hno x ex hp]
 ·have d1:¬(i:Int)<(l.length:Int):=by omega
  simp only[vW,seval,d1];unfold fieldAt;rw[z0P (fun f=>f.n==s) l (fun x hx=>by
   obtain⟨j,hj⟩:=List.getElem?_of_mem hx;exact hno j x (by have:=(gJ hj).1;omega) hj)]
def z1G(l:List Fld)(s:zB):TV:=if fieldAt l s<0 then .tuple [I 0,B false] else .tuple [I (fieldAt l s),B true]
theorem z9m(g:Sh.Glob)(c:Cls)(s:zB)(hl:c.fs.length≤4611686018427387904):zC g 13 [clT c,S (str s)] [] (z1G c.fs s) []:=by
 have HI:=z6P g c.fs s (by unfold maxLen;omega);unfold z1G;refine za tf_5 ?_;by_cases h:fieldAt c.fs s<0
 ·rw[if_pos h];simp only[vW,seval,clV];refine z6 HI ?_;simp only[vW,seval,h,B]
 ·rw[if_neg h];simp only[vW,seval,clV];refine z6 HI ?_;simp only[vW,seval,h,B]
theorem z5M(g:Sh.Glob)(f:Fld)(hf:z2I f.n):zC g 32 [flT f] [] (B (zK f)) []:=by
 have HN:=z3v g f.n hf;have HT:=z5P g f.t;unfold zK;refine za tf_12 ?_;unfold B at*;simp only[vW,seval,clV];refine z6 HN ?_;cases h1:zm f.n
 ·simp only[vW,seval]
 ·simp only[vW,seval];refine z6 HT ?_;cases h2:zf f.t
  ·simp only[vW,seval]
  ·cases h3:f.ix
   ·simp only[vW,seval,h3];rfl
   ·simp only[vW,seval,h3]
theorem z5q{all:List Fld}{k:Nat}{f:Fld}{r:List Fld}:z24 all k (f::r)=(zK f&&fieldAt all f.n==k&&z24 all (k+1) r):=rfl
theorem z6L{l:List Fld}{f:Fld}(h:f∈l):¬fieldAt l f.n<0:=by
 unfold fieldAt;rw[z44];intro hn;have:=hn f h;simp at this
theorem z5E(g:Sh.Glob)(c:Cls)(hc:ClsOk c):zC g 15 [clT c] [] (B (z07 c)) []:=by
 have HN:=z3v g c.n hc.n;have hlen:=hc.len;obtain⟨R,hR⟩:∃R,z07 c=R:=⟨_,rfl⟩
 rw[hR];unfold z07 at hR;refine za tf_7 ?_;unfold B at*;simp only[vW,seval,clV];refine z6 HN ?_;cases h1:zm c.n
 ·rw[h1]at hR;subst hR;simp only[vW,seval]
 rw[h1,Bool.true_and]at hR;by_cases h8:c.fs.length≤8
 ·rw[decide_eq_true h8,Bool.true_and]at hR;have d8:¬(8:Int)<(c.fs.length:Int):=by omega
  simp only[vW,seval,d8,clV];refine zE (σ:={k:Nat // k≤c.fs.length∧z24 c.fs k (c.fs.drop k)=R}) (fun k=>⟨[(18,.pv (.sl 4 (flR c.fs))),(19,I (c.fs.length:Int)),(20,I (k.1:Int)),(1,.ptr 1 0)],[(1,[S (str c.n),.pv (.sl 4 (flR c.fs))])],[],[]⟩) (fun k=>c.fs.length-k.1) ⟨0,Nat.zero_le _,by simpa using hR⟩ ?_ ?_
  ·exact lwA
  rintro⟨k,hk,hT⟩;by_cases hlt:k<c.fs.length
  ·have d1:(k:Int)<(c.fs.length:Int):=by omega
   obtain⟨f,ef⟩:∃f,c.fs[k]?=some f:=⟨_,gE hlt⟩
   have hmem:=gM ef;have HF:=z5M g f (hc.fs f hmem);have HA:=z9m g c f.n hlen;have hne:=z6L hmem;have w1:=wS k;have hdr:c.fs.drop k=f::c.fs.drop (k+1):=by
    rw[List.drop_eq_getElem_cons hlt];congr 1;rw[gE hlt]at ef;exact Option.some.inj ef
   rw[hdr,z5q]at hT;unfold z1G at HA;rw[if_neg hne]at HA;unfold flT clT B at*;simp only[vW,seval,d1,ef,clV];refine z6 HF ?_;cases h2:zK f
   ·rw[h2]at hT;subst hT;simp only[vW,seval]
   rw[h2,Bool.true_and]at hT;simp only[vW,seval];refine z6 HA ?_;by_cases hat:fieldAt c.fs f.n=(k:Int)
   ·have hb:(fieldAt c.fs f.n==(k:Int))=true:=by simpa using hat
    rw[hb,Bool.true_and]at hT;simp only[vW,seval,hat,w1];refine zc ⟨k+1,hlt,hT⟩ (by show c.fs.length-(k+1)<c.fs.length-k;omega) ?_;exact lwA
   ·have hb:(fieldAt c.fs f.n==(k:Int))=false:=by simpa using hat
    rw[hb]at hT;subst hT;simp only[vW,seval,hat]
  ·have d1:¬(k:Int)<(c.fs.length:Int):=by omega
   have hdr:c.fs.drop k=[]:=List.drop_eq_nil_of_le (by omega);rw[hdr]at hT;simp only[vW,seval,d1];rw[←hT];rfl
 ·rw[decide_eq_false h8]at hR;subst hR;have d8:(8:Int)<(c.fs.length:Int):=by omega
  simp only[vW,seval,d8,clV]
def z21(r:Int×Int):TV:=.tuple [I r.1,I r.2]
theorem z5D(m:Nat)(c:Cls)(vs:List V)(hc:ClsOk c)(hv:∀x∈vs,VOk x∧x.l.length≤maxLen)(hl:vs.length≤4611686018427387904):zC (gl0 m) 9 [clT c,.pv (.sl 4 (V.rows vs))] [] (z21 (z2a c vs)) []:=by
 have HR:=z5E (gl0 m) c hc;have hlen:=hc.len;obtain⟨R,hR⟩:∃R,z2a c vs=R:=⟨_,rfl⟩
 rw[hR];unfold z2a at hR;refine za tf_2 ?_;unfold z21 clT B at*;simp only[vW,seval,clV];refine z6 HR ?_;cases h1:z07 c
 ·rw[h1]at hR;simp at hR;subst hR;simp only[vW,seval]
 rw[h1]at hR;simp only[Bool.not_true,Bool.false_eq_true,if_false]at hR;by_cases h2:vs.length=c.fs.length
 ·have d2:(vs.length:Int)=(c.fs.length:Int):=by omega
  rw[if_neg (by simpa using h2)]at hR;simp only[vW,seval,d2,clV];refine zE (σ:={k:Nat // k≤c.fs.length∧z1l k (c.fs.drop k) (vs.drop k)=R}) (fun k=>⟨[(1,.pv (.sl 4 (V.rows vs))),(24,.pv (.sl 4 (flR c.fs))),(25,I (c.fs.length:Int)),(26,I (k.1:Int))],[(2,[S (str c.n),.pv (.sl 4 (flR c.fs))])],[],[]⟩) (fun k=>c.fs.length-k.1) ⟨0,Nat.zero_le _,by simpa using hR⟩ ?_ ?_
  ·exact lwA
  rintro⟨k,hk,hT⟩;by_cases hlt:k<c.fs.length
  ·have d1:(k:Int)<(c.fs.length:Int):=by omega
   obtain⟨f,ef⟩:∃f,c.fs[k]?=some f:=⟨_,gE hlt⟩
   have hlt2:k<vs.length:=by omega
   obtain⟨v,ev⟩:∃v,vs[k]?=some v:=⟨_,gE hlt2⟩
   obtain⟨hv1,hv2⟩:=hv v (gM ev);have HF:=z9o m v f.t hv1 hv2;have w1:=wS k;have hdr:c.fs.drop k=f::c.fs.drop (k+1):=by
    rw[List.drop_eq_getElem_cons hlt];congr 1;rw[gE hlt]at ef;exact Option.some.inj ef
   have hdv:vs.drop k=v::vs.drop (k+1):=by
    rw[List.drop_eq_getElem_cons hlt2];congr 1;rw[gE hlt2]at ev;exact Option.some.inj ev
   rw[hdr,hdv,z1l]at hT;unfold B at HF;simp only[vW,seval,d1,ef,ev,clV];refine z6 HF ?_;cases h3:z1d v f.t
   ·rw[h3]at hT;simp only[Bool.false_eq_true,if_false]at hT;subst hT;simp only[vW,seval]
   ·rw[h3]at hT;simp only[if_true]at hT;simp only[vW,seval,w1];refine zc ⟨k+1,hlt,hT⟩ (by show c.fs.length-(k+1)<c.fs.length-k;omega) ?_;exact lwA
  ·have d1:¬(k:Int)<(c.fs.length:Int):=by omega
   have hdr:c.fs.drop k=[]:=List.drop_eq_nil_of_le (by omega);rw[hdr,z1l]at hT;subst hT;simp only[vW,seval,d1]
 ·have d2:¬(vs.length:Int)=(c.fs.length:Int):=by omega
  rw[if_pos h2]at hR;subst hR;have hmin:min (vs.length:Int) (c.fs.length:Int)=((min vs.length c.fs.length:Nat):Int):=by omega
  simp only[vW,seval,d2,hmin,clV]
theorem z6W(g:Sh.Glob)(c:Cls)(s:zB)(hl:c.fs.length≤4611686018427387904):zC g 18 [clT c,S (str s)] [] (z1G c.fs s) []:=by
 unfold z1G;refine za tf_30 ?_;simp only[vW,seval,clV];refine zE (σ:={i:Nat // i≤c.fs.length∧∀j x,j<i→c.fs[j]?=some x→(x.n==s)=false}) (fun i=>⟨[(1,S (str s)),(6,I (i.1:Int)),(2,.ptr 2 0)],[(2,[S (str c.n),.pv (.sl 4 (flR c.fs))])],[],[]⟩) (fun i=>c.fs.length-i.1) ⟨0,Nat.zero_le _,fun j x hj=>by omega⟩ ?_ ?_
 ·exact lwA
 rintro⟨i,hi,hno⟩;by_cases hlt:i<c.fs.length
 ·have d1:(i:Int)<(c.fs.length:Int):=by omega
  obtain⟨x,ex⟩:∃x,c.fs[i]?=some x:=⟨_,gE hlt⟩
  have w1:=wS i;cases hp:(x.n==s)
  ·simp only[vW,seval,d1,ex,hp,w1,clV];refine zc ⟨i+1,by omega,fun j y hj hy=> ?_⟩ (by show c.fs.length-(i+1)<c.fs.length-i;omega) ?_
   ·by_cases hji:j=i
    ·subst hji;rw[ex]at hy;cases hy;exact hp
    ·exact hno j y (by omega) hy
   ·exact lwA
  ·have hf:fieldAt c.fs s=(i:Int):=z0O (fun f:Fld=>f.n==s) c.fs i hno x ex hp;rw[hf,if_neg (by omega)];simp only[vW,seval,d1,ex,hp,clV];rfl
 ·have d1:¬(i:Int)<(c.fs.length:Int):=by omega
  have hf:fieldAt c.fs s= -1:=z0P (fun f:Fld=>f.n==s) c.fs (fun x hx=>by
   obtain⟨j,hj⟩:=List.getElem?_of_mem hx;exact hno j x (by have:=(gJ hj).1;omega) hj)
  rw[hf,if_pos (by omega)];simp only[vW,seval,d1,clV];rfl
end Go.Proofs.YtcpaleaajdilgaaDoor
end

section
namespace Go.Proofs.YtcpaleaajdilgaaDoor
open Go.ChangeShapes Go.WideShapes Go.ChangeAt Go.RowKit Go.Lib Go.Mor Go.Deep Go.Joins
open Go.Sh (RelT RelV TV PV SCalls Env MSim z0f zx z16 Low)
open Go.ChangeMaps (open_string shut_string)
open Go.Proofs.YtcpaleaajdilgaaDoor.OpR
section
variable{H:Type}{enc:TypeId×Value→H}
theorem zbK{α:Type}{l:List α}(h:l.length=4):∃a b c d,l=[a,b,c,d]:=by
 match l,h with
 |[a,b,c,d],_=>exact⟨a,b,c,d,rfl⟩
theorem zbJ{α:Type}{l:List α}(h:l.length=3):∃a b c,l=[a,b,c]:=by
 match l,h with
 |[a,b,c],_=>exact⟨a,b,c,rfl⟩
theorem zb1{α:Type}{l:List α}(h:l.length=2):∃a b,l=[a,b]:=by
 match l,h with
 |[a,b],_=>exact⟨a,b,rfl⟩
theorem z9E{W:World}{base:Nat}{spare:Nat→Bool}{held:Bool}{n:Nat}{cs:List Value}{y:DataW H×List MemPlace}(h:DataW.trod enc Tryd.prog W base spare held n 44 cs=some y):
  ∃t:Ty,cs=[.int .i64 t.k,.int .i64 t.o]:=by
 obtain⟨xs,n',rfl,_,hlen,hxl,hf⟩:=DataW.trod_struct Tryd.underlying44 h;obtain⟨c0,c1,rfl⟩:=zb1 (hlen.trans (by kernel_rfl));obtain⟨x0,x1,rfl⟩:=zb1 hxl;have k0:Tryd.prog.cellsOf 3=1:=by kernel_rfl
 have h0:DataW.trod enc Tryd.prog W base spare held n' 3 [c0]=some x0:=by have:=hf 0 _ rfl;simpa [k0]using this
 have h1:DataW.trod enc Tryd.prog W base spare held n' 3 [c1]=some x1:=by have:=hf 1 _ rfl;simpa [k0]using this
 obtain⟨z0,e0,_,_⟩:=DataW.trod_int Tryd.underlying3 h0;obtain⟨z1,e1,_,_⟩:=DataW.trod_int Tryd.underlying3 h1;simp at e0 e1;subst e0 e1;exact⟨⟨z0,z1⟩,rfl⟩
theorem z6m{W:World}{base:Nat}{spare:Nat→Bool}{held:Bool}{n:Nat}{cs:List Value}{y:DataW H×List MemPlace}(h:DataW.trod enc Tryd.prog W base spare held n 46 cs=some y):
  ∃f:Fld,cs=[.string (str f.n),.int .i64 f.t.k,.int .i64 f.t.o,.bool f.ix]∧f.n.length≤9223372036854775807:=by
 obtain⟨xs,n',rfl,_,hlen,hxl,hf⟩:=DataW.trod_struct Tryd.underlying46 h;obtain⟨c0,c1,c2,c3,rfl⟩:=zbK (hlen.trans (by kernel_rfl));obtain⟨x0,x1,x2,rfl⟩:=zbJ hxl;have k0:Tryd.prog.cellsOf 9=1:=by kernel_rfl
 have k1:Tryd.prog.cellsOf 44=2:=by kernel_rfl
 have k2:Tryd.prog.cellsOf 4=1:=by kernel_rfl
 have h0:DataW.trod enc Tryd.prog W base spare held n' 9 [c0]=some x0:=by have:=hf 0 _ rfl;simpa [k0]using this
 have h1:DataW.trod enc Tryd.prog W base spare held n' 44 [c1,c2]=some x1:=by have:=hf 1 _ rfl;simpa [k1]using this
 have h2:DataW.trod enc Tryd.prog W base spare held n' 4 [c3]=some x2:=by have:=hf 2 _ rfl;simpa [k2]using this
 obtain⟨z0,e0,_,w0⟩:=DataW.trod_string Tryd.underlying9 h0;obtain⟨t,e1⟩:=z9E h1;obtain⟨z2,e2,_⟩:=DataW.trod_bool Tryd.underlying4 h2;simp at e0 e1 e2;obtain⟨rfl,rfl⟩:=e1;subst e0 e2;exact⟨⟨z0.data.toList,t,z2⟩,by rw[z6C],z5b w0⟩
theorem z8M{W:World}{base:Nat}{spare:Nat→Bool}{held:Bool}{fuel:Nat}{c:Value}{y:DataW H×List MemPlace}(h:DataW.trod enc Tryd.prog W base spare held fuel 25 [c]=some y):
  ∃l:List Fld,(∀f∈l,f.n.length≤9223372036854775807)∧l.length≤9223372036854775807∧RelV W (z0e W).K (.sl 4 (flR l)) c:=by
 rcases open_slice Tryd.underlying25 h with h0|⟨a,len,cap,m,n,D,Pl,hcs,hb,hl,hm,hmm,hx,hi⟩
 ·obtain rfl:c=.slice none 0 0:=by simpa using h0.1
  exact⟨[],by simp,by simp,.sl 4 [] 0 0 0 none (fun _ _=>undef) (by simp) (by simp) (by simp) (by simp) (by simp) (by simp)⟩
 ·obtain rfl:c=.slice (some a) len cap:=by simpa using hcs
  have hC:Tryd.prog.cellsOf 46=4:=by kernel_rfl
  have key:∀i,i<len→∃f:Fld,f.n.length≤9223372036854775807∧a=⟨a.block,a.off,none⟩∧W.cell? ⟨a.block,a.off+i*4,none⟩=some (.string (str f.n))∧W.cell? ⟨a.block,a.off+i*4+1,none⟩=some (.int .i64 f.t.k)
    ∧W.cell? ⟨a.block,a.off+i*4+2,none⟩=some (.int .i64 f.t.o)∧W.cell? ⟨a.block,a.off+i*4+3,none⟩=some (.bool f.ix):=by
   intro i hlt;obtain⟨cs',hc,ht⟩:=hi i (by rw[hmm];split<;>omega);rw[hC]at hc;obtain⟨f,rfl,hf⟩:=z6m ht;obtain⟨_,hcl,hat⟩:=World.cells?_some hc;have c0:=hat 0 (by omega);have c1:=hat 1 (by omega);have c2:=hat 2 (by omega);have c3:=hat 3 (by omega);rw[Go.Deep.add_add]at c0 c1 c2 c3;obtain⟨cs0,hc0,ht0⟩:=hi 0 (by rw[hmm];split<;>omega);rw[hC]at hc0;obtain⟨f0,rfl,_⟩:=z6m ht0;obtain⟨_,_,hat0⟩:=World.cells?_some hc0;have h0:=hat0 0 (by omega);have h00:W.cell? a=some (.string (str f0.n)):=by simpa [Addr.add]using h0
   have ha:a=⟨a.block,a.off,none⟩:=(z2J (k:=0) h00).1;have hadd:∀k,a.add k=⟨a.block,a.off+k,none⟩:=fun k=>(z2J (k:=k) h00).2;rw[hadd]at c0 c1 c2 c3;exact⟨f,hf,ha,c0,c1,c2,c3⟩
  obtain⟨l,hlen,hq⟩:=z7a key;refine⟨l,fun r hr=> ?_,by unfold maxLen at hm;omega,?_⟩
  ·obtain⟨i,hi⟩:=List.getElem?_of_mem hr;exact(hq i r hi).1
  ·have hL:(flR l).length=len:=by rw[z3I,hlen]
   rw[←hL];have cell:∀(i j:Nat) cs q,(flR l)[i]?=some cs→cs[j]?=some q→∃u,q=.v u∧W.cell? ⟨a.block,a.off+i*4+j,none⟩=some u∧Go.Sh.one u:=by
    intro i j cs q h1 h2;rw[z5T,Option.map_eq_some_iff]at h1;obtain⟨r,hr,rfl⟩:=h1;obtain⟨_,_,c0,c1,c2,c3⟩:=hq i r hr
    match j with
    |0=>simp[flR1]at h2;subst h2;exact⟨_,rfl,c0,rfl⟩
    |1=>simp[flR1]at h2;subst h2;exact⟨_,rfl,c1,rfl⟩
    |2=>simp[flR1]at h2;subst h2;exact⟨_,rfl,c2,rfl⟩
    |3=>simp[flR1]at h2;subst h2;exact⟨_,rfl,c3,rfl⟩
    |j+4=>simp[flR1]at h2
   refine .sl 4 (flR l) a.block a.off cap (some a) (fun i j=>(W.cell? ⟨a.block,a.off+i*4+j,none⟩).getD undef) (fun hne=> ?_) (by omega) hm (fun cs hcs=> ?_) (fun i j cs q h1 h2=> ?_) (fun i j cs q h1 h2=> ?_)
   ·obtain⟨r,hr⟩:∃r,l[0]?=some r:=by
     cases l with
     |nil=>exact absurd rfl hne
     |cons r q=>exact⟨r,rfl⟩
    rw[(hq 0 r hr).2.1]
   ·obtain⟨r,_,rfl⟩:=List.mem_map.1 hcs;rfl
   ·obtain⟨u,_,hu,ho⟩:=cell i j cs q h1 h2;rw[hu];exact⟨zS (a:=⟨a.block,a.off+i*4+j,none⟩) hu,rfl,ho⟩
   ·obtain⟨u,rfl,hu,ho⟩:=cell i j cs q h1 h2;rw[hu];exact .v u
theorem z9C{W:World}{b0 base:Nat}{spare:Nat→Bool}{held:Bool}{v:Value}{d:DataW H}{p:List MemPlace}(hok:Value.okWide Tryd.prog W .any b0 27 v)(h:DataW.Trod enc Tryd.prog W base spare held 27 v d p):
  ∃c:Cls,(c.n.length≤9223372036854775807∧(∀f∈c.fs,f.n.length≤9223372036854775807)∧c.fs.length≤9223372036854775807)∧∀r,RelT W (z0e W) r (clT c) v:=by
 obtain⟨c0,c1,y0,y1,m,rfl,_,_,hy0,hy1⟩:=open_agg2 Tryd.underlying27 (by kernel_rfl) (by kernel_rfl) hok h;obtain⟨z0,e0,_,w0⟩:=DataW.trod_string Tryd.underlying9 hy0;obtain rfl:c0=_:=by simpa using e0
 obtain⟨l,hl,hlen,hr⟩:=z8M hy1;refine⟨⟨z0.data.toList,l⟩,⟨z5b w0,hl,hlen⟩,fun r=> ?_⟩;unfold clT;refine .agg _ [_,c1] rfl (fun j q u hq hu=> ?_) (fun u hu=> ?_)
 ·match j with
  |0=>simp at hq hu;subst hq;subst hu;rw[z6C];exact .pv (.v _)
  |1=>simp at hq hu;subst hq;subst hu;exact .pv hr
  |j+2=>simp at hq
 ·simp at hu;rcases hu with rfl|rfl
  ·rfl
  ·cases hr;rfl
theorem z9F{W:World}{b0 base:Nat}{spare:Nat→Bool}{held:Bool}{v:Value}{d:DataW H}{p:List MemPlace}(hok:Value.okWide Tryd.prog W .any b0 31 v)(h:DataW.Trod enc Tryd.prog W base spare held 31 v d p):
  ∃x:V,(I64 x.k∧I64 x.n∧x.s.length≤9223372036854775807)∧∀r,RelT W (z0e W) r (.agg [.pv (.v (.int .i64 x.k)),.pv (.v (.int .i64 x.n)),.pv (.v (.string (str x.s))),.unk]) v:=by
 obtain⟨c0,c1,c2,c3,y0,y1,y2,y3,m,rfl,_,_,hy0,hy1,hy2,hy3⟩:=open_agg4 Tryd.underlying31 (by kernel_rfl) (by kernel_rfl) hok h;obtain⟨z0,e0,_,w0⟩:=DataW.trod_int Tryd.underlying3 hy0;obtain⟨z1,e1,_,w1⟩:=DataW.trod_int Tryd.underlying3 hy1;obtain⟨z2,e2,_,w2⟩:=DataW.trod_string Tryd.underlying9 hy2;simp at e0 e1 e2;subst e0 e1 e2;have h3:Go.Sh.one c3:=by
  rcases open_slice Tryd.underlying29 hy3 with h0|⟨a,len,cap,m,n,D,Pl,hcs,_⟩
  ·obtain rfl:c3=.slice none 0 0:=by simpa using h0.1
   rfl
  ·obtain rfl:c3=.slice (some a) len cap:=by simpa using hcs
   rfl
 refine⟨.mk z0 z1 z2.data.toList [],⟨bounds_i64 w0,bounds_i64 w1,z5b w2⟩,fun r=> ?_⟩;refine .agg _ [_,_,_,c3] rfl (fun j q u hq hu=> ?_) (fun u hu=> ?_)
 ·match j with
  |0=>simp at hq hu;subst hq;subst hu;exact .pv (.v _)
  |1=>simp at hq hu;subst hq;subst hu;exact .pv (.v _)
  |2=>simp at hq hu;subst hq;subst hu;show RelT _ _ _ (.pv (.v (.string (str z2.data.toList)))) _;rw[z6C];exact .pv (.v _)
  |3=>simp at hq hu;subst hq;subst hu;exact .unk _
  |j+4=>simp at hq
 ·simp at hu;rcases hu with rfl|rfl|rfl|rfl
  ·rfl
  ·rfl
  ·rfl
  ·exact h3
end
end Go.Proofs.YtcpaleaajdilgaaDoor
end

section
namespace Go.Proofs.YtcpaleaajdilgaaDoor
open Go.ChangeShapes Go.WideShapes Go.ChangeAt Go.RowKit Go.Lib Go.Mor Go.Deep Go.Joins
open Go.Sh (RelT RelV TV PV SCalls Env MSim z0f zx z16 Low)
open Go.ChangeMaps (open_string shut_string)
section
variable{H:Type}{enc:TypeId×Value→H}
theorem z8N{t e:TypeId}{k:IntKind}(ht:Tryd.prog.underlying t=some (.slice e))(he:Tryd.prog.underlying e=some (.int k))(hc:Tryd.prog.cellsOf e=1)
  {W:World} {b0 base:Nat} {spare:Nat→Bool} {held:Bool} {v:Value} {d:DataW H} {p:List MemPlace} (hok:Value.okWide Tryd.prog W .any b0 t v) (h:DataW.Trod enc Tryd.prog W base spare held t v d p):
  ∃l:List Int,(∀x∈l,(Lit.int k x).wf=true)∧l.length≤9223372036854775807∧∀r,RelT W (z0e W) r (.pv (.sl 1 (l.map fun z=>[PV.v (.int k z)]))) v:=by
 obtain⟨a0,len,cap,rfl⟩:=okWide_slice ht hok;obtain⟨fuel,hf⟩:=h;rcases open_ints ht he hc hf with⟨hcs,hx⟩|⟨a,len',cap',zs,hcs,_,hl,hm,hz,hx,hcell,hwz⟩
 ·obtain⟨rfl,rfl,rfl⟩:a0=none∧len=0∧cap=0:=by simpa [Value.cells]using hcs
  exact⟨[],by simp,by simp,fun r=> .pv (.sl 1 [] 0 0 0 none (fun _ _=>undef) (by simp) (by simp) (by simp) (by simp) (by simp) (by simp))⟩
 ·obtain⟨rfl,rfl,rfl⟩:a0=some a∧len=len'∧cap=cap':=by simpa [Value.cells]using hcs
  have hlz:len≤zs.length:=by rw[hz];split<;>omega
  have hlen:(zs.take len).length=len:=by rw[List.length_take];omega
  refine⟨zs.take len,fun x hx=>hwz x (List.mem_of_mem_take hx),by unfold maxLen at hm;omega,fun r=> ?_⟩;have hL:((zs.take len).map fun z=>[PV.v (.int k z)]).length=len:=by rw[List.length_map,hlen]
  rcases Nat.eq_zero_or_pos zs.length with h0|h0
  ·obtain rfl:len=0:=by omega
   have e0:(zs.take 0).map (fun z=>[PV.v (.int k z)])=[]:=by simp
   rw[e0];exact .pv (.sl 1 [] 0 0 cap (some a) (fun _ _=>undef) (by simp) (by simp) hm (by simp) (by simp) (by simp))
  ·obtain⟨b,off,rfl,hcl⟩:=ints_at hcell h0;have cell:∀(i j:Nat) cs q,((zs.take len).map fun z=>[PV.v (.int k z)])[i]?=some cs→cs[j]?=some q→∃u,q=.v u∧W.cell? ⟨b,off+i*1+j,none⟩=some u∧Go.Sh.one u:=by
    intro i j cs q h1 h2;rw[List.getElem?_map,Option.map_eq_some_iff]at h1;obtain⟨z,hz1,rfl⟩:=h1;obtain⟨hi,he⟩:=gJ hz1;have hi':i<zs.length:=by rw[hlen]at hi;omega
    match j with
    |0=>
     simp at h2;subst h2;refine⟨_,rfl,?_,rfl⟩;have:=hcl i hi';rw[List.getElem_take]at he;rw[List.getD_eq_getElem?_getD,gE hi',Option.getD_some,he]at this;simpa using this
    |j+1=>simp at h2
   have key:RelV W (z0e W).K (.sl 1 ((zs.take len).map fun z=>[PV.v (.int k z)])) (.slice (some ⟨b,off,none⟩) ((zs.take len).map fun z=>[PV.v (.int k z)]).length cap):=by
    refine .sl 1 _ b off cap (some ⟨b,off,none⟩) (fun i j=>(W.cell? ⟨b,off+i*1+j,none⟩).getD undef) (fun _=>rfl) (by omega) hm (fun cs hcs=> ?_) (fun i j cs q h1 h2=> ?_) (fun i j cs q h1 h2=> ?_)
    ·obtain⟨r,_,rfl⟩:=List.mem_map.1 hcs;rfl
    ·obtain⟨u,_,hu,ho⟩:=cell i j cs q h1 h2;rw[hu];exact⟨zS (a:=⟨b,off+i*1+j,none⟩) hu,rfl,ho⟩
    ·obtain⟨u,rfl,hu,ho⟩:=cell i j cs q h1 h2;rw[hu];exact .v u
   rw[hL]at key;exact .pv key
end
end Go.Proofs.YtcpaleaajdilgaaDoor
end

section
namespace Go.Proofs.YtcpaleaajdilgaaDoor
open Go Go.RowKit Go.Mor
section
open Go.Shelf
attribute [local go_sem] Oper.semAt_some
theorem z7J(F:Fence)(n:Nat)(h6:F.fn 57)(hro:F.round=none)(hn:1≤n)(l Bn:Nat)(x:Int)(hx0: -9223372036854775808≤x)(hx1:x≤9223372036854775807)(Kp:World→World→Prop)(J Jx:zB→World→Prop)
  (hY:∀pre (g:UInt8) W,J pre W→pre.length<10→YieldAt F (n-1) Tryd.prog l #[.int .u8 g.toNat] W fun e W'=>
   (e=.returned (.bool true)∧J (pre++[g]) W'∧Kp W W')∨(e=.returned (.bool false)∧Jx (pre++[g]) W'))
  (W:World) (hBn:W.cell? ⟨Bn,0,none⟩=some (.int .i64 x)) (h0:J [] W):
  CallsIn F n Tryd.prog 57 #[.func (.yield l) #[] #[],.pointer (some ⟨Bn,0,none⟩)] W fun e W'=>(∃v,e=.returned v)∧
   ((∃ys,ys=z2w x∧J ys W')∨(∃pre,True∧Jx pre W')):=by
 refine callsIn_of_wp Tryd.func57 rfl h6 ?_ hro;simp only[Tryd.ntmps57,List.size_toArray,List.length_cons,List.length_nil,Nat.reduceAdd,Nat.reduceSub,Array.replicate_succ,Array.replicate_zero,List.push_toArray,List.append_toArray,List.nil_append,List.cons_append];obtain⟨fn,tmps,assign,body,hy,hR⟩:=hY [] (UInt8.ofNat (mag x%64*2+sgn x)) W h0 (by simp);by_cases hneg:x<0;all_goals
  first|rw[z8q x hneg]at hy|rw[z8r x hneg]at hy
  have HY:=Lib.hid hY;clear hY
  gi_wp2
  refine hR.mono ?_;clear hR hy;rintro e W1 (⟨rfl,hJ1,_⟩|⟨rfl,hx1⟩)
  ·gi_wp2
   gi_loopw [3] (fun p wr=>∃(pre:zB) (m f:Nat),p=.int .u64 m∧Hid (z2w x=pre++z1W f m)∧Hid (m<128 ^ f)∧m<9223372036854775808∧Hid (pre.length+f=10)∧J pre wr)
    (fun p _=>(intOf p).toNat)
   case atStart=>
    have hml:=zb3 x hx0 hx1;have hme:=z8D x;refine⟨[UInt8.ofNat (mag x%64*2+sgn x)],mag x / 64,9,?_,rfl,?_,by omega,rfl,hJ1⟩
    ·congr 1;split at hme<;>omega
    ·show _<9223372036854775808;omega
   case round=>
    obtain⟨pre,m,f,rfl,hg,hlt,hm,hl,hJs⟩:=hrel;by_cases hm0:m=0
    ·subst hm0
     gi_wp2
     go_end0
     exact⟨⟨_,rfl⟩,.inl ⟨pre,by rw[hg.out,z84];simp,hJs⟩⟩
    ·have hne:((m:Int)==0)=false:=by simpa using hm0
     have hne':((m:Int) !=0)=true:=by simpa using hm0
     cases f with
     |zero=>exact absurd hlt.out (by simp;omega)
     |succ f=>
     obtain⟨fn,tmps,assign,body,hy,hR⟩:=HY.out pre (UInt8.ofNat (m%128)) wr hJs (by have:=hl.out;omega);rw[z8F]at hy
     gi_wp2
     refine hR.mono ?_;clear hR hy;rintro e W3 (⟨rfl,hJ3,_⟩|⟨rfl,hJx3⟩)
     ·gi_wp2
      go_roundw
      case rel=>
       refine⟨pre++[UInt8.ofNat (m%128)],m / 128,f,by simp,?_,?_,by omega,?_,hJ3⟩
       ·show _=_;rw[hg.out];simp[z1W,hm0]
       ·show _<_;have:=hlt.out;rw[Nat.pow_succ]at this;exact Nat.div_lt_of_lt_mul (by rw[Nat.mul_comm];exact this)
       ·show _=_;have:=hl.out;simp;omega
      case measure=>simp[intOf];omega
     ·gi_wp2
      refine bodyPost_ret (results_none rfl _ _ _) rfl ?_;exact⟨⟨_,rfl⟩,.inr ⟨_,trivial,hJx3⟩⟩
  ·gi_wp2
   refine bodyPost_ret (results_none rfl _ _ _) rfl ?_;exact⟨⟨_,rfl⟩,.inr ⟨_,trivial,hx1⟩⟩
theorem z8u(F:Fence)(n:Nat)(h5:F.fn 45)(hro:F.round=none)(x:Int)(w:World):
  CallsIn F n Tryd.prog 45 #[.int .i64 x] w fun e w'=>e=.returned (.func (.func 57) #[] #[.pointer (some ⟨w.heap.size,0,none⟩)])∧w'=w.alloc (.cells #[.int .i64 x] 3):=by
 refine callsIn_of_wp Tryd.func45 rfl h5 ?_ hro;simp only[Tryd.ntmps45,List.size_toArray,List.length_cons,List.length_nil,Nat.reduceAdd,Nat.reduceSub,Array.replicate_succ,Array.replicate_zero,List.push_toArray,List.append_toArray,List.nil_append,List.cons_append]
 gi_wp2
 go_ret
 exact⟨rfl,rfl⟩
theorem z6c(F:Fence)(n:Nat)(Kp:World→World→Prop)(h6:F.fn 57)(hro:F.round=none)(hn:1≤n)(Bn:Nat)(x:Int)(hx0: -9223372036854775808≤x)(hx1:x≤9223372036854775807)(w:World)(hBn:Bn<w.heap.size)
  (hc:w.cell? ⟨Bn,0,none⟩=some (.int .i64 x)):
  SeqStopsK F n Tryd.prog 57 #[.pointer (some ⟨Bn,0,none⟩)] (fun g:UInt8=> #[Value.int .u8 g.toNat]) Kp (fun ys=>ys=z2w x) (fun _=>True) 10 w:=fun l J Jx W hW _ _ hY h0=>
 z7J F n h6 hro hn l Bn x hx0 hx1 Kp J Jx hY W ((hW.cell (p:=⟨Bn,0,none⟩) hBn).trans hc) h0
attribute [local go_sem] Oper.semAt_some
def u8(b:UInt8):Value:=.int .u8 b.toNat
theorem z9f{P:Program}{W:World}{base src dst e:Nat}{v:Value}{l:zB}(hs:P.underlying src=some (.slice e))(he:P.underlying e=some (.int .u8))(hd:P.underlying dst=some .string)
  (h:W.ownsRow base e 1 v l.length (l.map u8)):(convert src dst v).run P W=.ok (.string (str l)) W:=by
 have h':=h;rcases h.2 with⟨rfl,h0⟩|⟨g,cap,cur,rfl,_,_,_⟩
 ·obtain rfl:l=[]:=List.eq_nil_of_length_eq_zero h0;exact run_convert_bytes_nil W src e hs he 0 0 dst hd
 ·refine run_convert_bytes_back W src dst e ⟨g,0,none⟩ cap l hs he hd (fun j hj=> ?_);exact h'.cells (g:=g) rfl j _ (by simp[u8,gE hj])
theorem zaZ:(Tryd.prog.info? 5).map (fun i=>(i.zero,i.size,i.bytes))=some (some (.int .u8 0),1,1):=by kernel_rfl
theorem zb4(w:World):(Instr.makeSlice 62 (.int .i64 0) (.int .i64 10)).run Tryd.prog w=.ok (.slice (some ⟨w.heap.size,0,none⟩) 0 10) (w.alloc (.cells (Array.replicate 10 (.int .u8 0)) 5)):=by kernel_rfl
theorem zaG(F:Fence)(n:Nat)(h3:F.fn 25)(h4:F.fn 45)(h5:F.fn 57)(hro:F.round=none)(hn:3≤n)(x:Int)(hx0: -9223372036854775808≤x)(hx1:x≤9223372036854775807)(w:World):
  CallsIn F n Tryd.prog 25 #[.int .i64 x] w fun e W'=>e=.returned (.string (str (num x)))∧Below w.heap.size w W':=by
 have h1:1≤n:=by omega
 obtain⟨i0,hi,hz0,hz1,hz2⟩:=info_parts zaZ;have hmk:=zb4;refine callsIn_of_wp_marks Tryd.func25 rfl h3 ?_ hro;simp only[Tryd.ntmps25,List.size_toArray,List.length_cons,List.length_nil,Nat.reduceAdd,Nat.reduceSub,Array.replicate_succ,Array.replicate_zero,List.push_toArray,List.append_toArray,List.nil_append,List.cons_append]
 gi_wp2_with (gi_at_call 45;refine(z8u F (n-1) h4 hro _ _).mono ?_;rintro e w' ⟨rfl,rfl⟩)
 have bL0:=Boxed.new (w.alloc (.cells (Array.replicate 10 (.int .u8 0)) 5)) 62 (.slice (some ⟨w.heap.size,0,none⟩) 0 10);rw[World.size_alloc]at bL0;have bL:=bL0.alloc (.cells #[.int .i64 x] 3);have bN:=Boxed.new ((w.alloc (.cells (Array.replicate 10 (.int .u8 0)) 5)).alloc (.cells #[.slice (some ⟨w.heap.size,0,none⟩) 0 10] 62)) 3 (.int .i64 x);rw[World.size_alloc,World.size_alloc]at bN;have hB0:Below w.heap.size w (((w.alloc (.cells (Array.replicate 10 (.int .u8 0)) 5)).alloc (.cells #[.slice (some ⟨w.heap.size,0,none⟩) 0 10] 62)).alloc (.cells #[.int .i64 x] 3)):=
  (((Below.refl _ w).alloc (Nat.le_refl _) _).alloc (by simp) _).alloc (by simp;omega) _
 have hrow0:(((w.alloc (.cells (Array.replicate 10 (.int .u8 0)) 5)).alloc (.cells #[.slice (some ⟨w.heap.size,0,none⟩) 0 10] 62)).alloc (.cells #[.int .i64 x] 3)).ownsRow w.heap.size 5 1 (.slice (some ⟨w.heap.size,0,none⟩) 0 10) 0 []:=
  ((World.ownsRow_made w (Array.replicate 10 (.int .u8 0)) 10 (Nat.le_refl _) (by decide) (by simp)).alloc _).alloc _
 refine wpIn_rangeFunc_ownG hro h1 (gf:=57) (lb:= #[.pointer (some ⟨w.heap.size+1+1,0,none⟩)]) rfl h5 (enters_of Tryd.func57 (by kernel_rfl) rfl)
  (z6c F (n-1) (Below w.heap.size) h5 hro (by omega) (w.heap.size+1+1) x hx0 hx1 _ (by simp) bN.cell) belowK_t (belowK_b (by simp;omega)) (Below.refl _ _) (fun _=>rfl)
  (fun pre W=>(∃v,Boxed W (w.heap.size+1) 62 v∧W.ownsRow w.heap.size 5 1 v (z1O pre).length ((z1O pre).map u8)∧v≠ .slice none 0 0)∧Below w.heap.size w W)
  (fun _ _ _=>False)
  (OwnFrom.and (Own.from (holdsRow_own w.heap.size (w.heap.size+1) 62 5 1 (fun pre=>(z1O pre).length) (fun pre=>(z1O pre).map u8) (fun _ v=>v≠ .slice none 0 0)) _) (ownFrom_below (Nat.le_refl _) (by simp;omega)))
  (fun _ _ _ _ _ hs _ _=>hs)
  ⟨⟨_,bL,hrow0,by simp⟩,hB0⟩
  (fun g=>{ tmps:= #[.int .i64 x,undef,.string ⟨#[]⟩,.pointer (some ⟨w.heap.size+1,0,none⟩),.int .u8 g.toNat,undef,.slice (some ⟨w.heap.size,0,none⟩) 0 10,.int .i64 x,.func (.func 57) #[] #[.pointer (some ⟨w.heap.size+1+1,0,none⟩)],.int .u8 g.toNat,undef,undef,undef,undef,undef,undef,undef,undef,undef,undef,undef,undef,undef,undef,undef,undef,undef],defers:=[] }) ?assign ?body ?done ?stop
 case assign=>
  intro l x W K hK
  gi_wp2
  exact hK
 case body=>
  rintro l pre g W ⟨⟨v,hv,hrow,hnil⟩,hB⟩ hlt;have hc:=hv.cell;have hpl:(z1O pre).length=pre.length:=z49 pre;obtain⟨P0,hP0⟩:∃P0,z1O pre=P0:=⟨_,rfl⟩
  have HP:=Lib.hid hP0;rw[hP0]at hrow hpl;clear hP0;rcases hrow.2 with⟨rfl,_⟩|⟨gg,cap,cur,rfl,_,_,hcap,hcap2,_⟩
  ·exact absurd rfl hnil
  have hk:P0.length≤10:=by omega
  clear hpl hmk hx0 hx1 hlt;by_cases hl:P0=[]
  ·subst hl;simp only[List.length_nil,List.map_nil]at hrow
   gi_wp2_with (gi_at_builtin;refine wpListIn_append_own _ rfl _ _ 62 rfl w.heap.size 5 i0 (.int .u8 0) 1 1 Tryd.underlying62 hi hz0 hz1 hz2 rfl (by decide) _ _ _ rfl (hrow.alloc _) ⟨W.heap.size,0,none⟩ 1 1 [.int .u8 g.toNat] rfl rfl (cell_one_new _ _ _) (by simp[Value.oneCell']) (by decide) (by omega) (by have:=hB.size;simp;omega) ?_;intro v' w1 hown' hgrow _;obtain⟨g',cap',rfl⟩:=ownsRow_succ hown';obtain⟨hv1,hv2,hr2,hk2,hb2⟩:=hv.appended (by decide) hrow hB.size (by omega) hown' hgrow;have hc1:=hv1.cell;have hf1:=hv1.frozen)
   exact⟨hk2.from _,hb2,⟨_,hv2,by rw[z5s,HP.out,z9b];exact hr2,by simp⟩,hB.trans hb2⟩
  ·obtain⟨Q,b,rfl⟩:=zaA P0 hl;have hcell:=hrow.cellAt Q.length (by simp);have hfz:=hrow.frozenAt Q.length;have hst:=hrow.stored Q.length (.int .u8 (((b.toNat:Int)+128)%256));have hle:w.heap.size≤gg:=by rcases hrow.2 with⟨h,_⟩|⟨g2,c2,cur2,h,hb2,_⟩;cases h;cases h;exact hb2
   have hne:=hv.not_row (by decide) hrow;simp only[List.length_append,List.length_cons,List.length_nil,Nat.zero_add,List.map_append,List.map_cons,List.map_nil]at hrow hcell hst hcap hk hv hc hne ⊢;rw[List.set_append_right _ _ (by simp)]at hst;simp only[List.length_map,Nat.sub_self,List.set_cons_zero]at hst;simp[u8]at hcell;obtain⟨hst1,hst2⟩:=hst;have hst3:=Lib.hid hst1;have hv':=hv.kept hst2 (by simpa [Value.ownBlock]using hne);have hcW:=hv'.cell;have hKO:KeepsOthers W (W.setCell ⟨gg,Q.length,none⟩ (.int .u8 (((b.toNat:Int)+128)%256))):=KeepsOthers.setCell _ _ _;have hBW:=(Below.refl w.heap.size W).setCell (p:=⟨gg,Q.length,none⟩) hle (.int .u8 (((b.toNat:Int)+128)%256));clear hst1 hst2 hrow hne hcap hcap2
   gi_wp2_with (gi_at_builtin;go_must (refine wpListIn_append_own _ rfl _ _ 62 rfl w.heap.size 5 i0 (.int .u8 0) 1 1 Tryd.underlying62 hi hz0 hz1 hz2 rfl (by decide) _ _ _ rfl (hst3.out.alloc _) ⟨W.heap.size,0,none⟩ 1 1 [.int .u8 g.toNat] rfl rfl (by have:=cell_one_new (W.setCell ⟨gg,Q.length,none⟩ (.int .u8 (((b.toNat:Int)+128)%256))) (.int .u8 g.toNat) 5;rwa [World.size_setCell]at this) (by simp[Value.oneCell']) (by unfold maxLen;omega) (by omega) (by have:=hB.size;simp;omega) ?_;intro v' w1 hown' hgrow _;obtain⟨g',cap',rfl⟩:=ownsRow_succ hown';obtain⟨hv1,hv2,hr2,hk2,hb2⟩:=hv'.appended (by decide) hst3.out (by have:=hB.size;simp;omega) (by omega) hown' hgrow;have hc1:=hv1.cell;have hf1:=hv1.frozen))
   exact⟨(hKO.trans hk2).from _,hBW.trans hb2,⟨_,hv2,by rw[z5s,HP.out,z8e];simpa [u8,zaL]using hr2,by simp⟩,hB.trans (hBW.trans hb2)⟩
 case done=>
  rintro D ys W hD rfl ⟨⟨v,hv,hrow,hnil⟩,hB⟩ hK;have hc:=hv.cell;have hcv:=z9f (P:=Tryd.prog) Tryd.underlying62 Tryd.underlying5 Tryd.underlying9 hrow
  gi_wp2
  refine⟨by simp,.inl ⟨_,_,rfl,run_takeDeferred hK,?_⟩⟩;exact⟨_,results_tmp rfl _ _ _,rfl,hB.trans (belowK_b (w:=w) (Nat.le_refl _) W D _ _ (by simp at hD;omega) hK rfl rfl)⟩
 case stop=>
  rintro D c pre W _ _ h _;exact h.elim
theorem z71(x:Int)(hx0: -9223372036854775808≤x)(hx1:x≤9223372036854775807)(w:World):
  Calls Tryd.prog 25 #[.int .i64 x] w fun e W'=>e=.returned (.string (str (num x)))∧Below w.heap.size w W':=
 (callsIn_wide (n:=3)).1 (zaG Fence.wide 3 trivial trivial trivial rfl (by omega) x hx0 hx1 w)
end
section
open Go.Stop Go.Extern
structure Glob(w:World)(a0 a1:Addr):Prop extends GlobU w where
 e0:w.cell? ⟨1,0,none⟩=some (.iface 129 (.pointer (some a0)))
 e1:w.cell? ⟨0,0,none⟩=some (.iface 129 (.pointer (some a1)))
 ne:a0≠a1
 b0:∃ca ta,w.heap[a0.block]?=some (.cells ca ta (0,0))
 b1:∃ca ta,w.heap[a1.block]?=some (.cells ca ta (0,0))
theorem z1Z{w:World}{b:Nat}{o:Obj}(h:w.heap[b]?=some o):b<w.heap.size:=(gA h).1
theorem Glob.ext{w w':World}{a0 a1:Addr}(h:Glob w a0 a1)(hb:Below w.heap.size w w'):Glob w' a0 a1 where
 toGlobU:=h.toGlobU.ext hb
 e0:=(hb.cell (zS h.e0)).trans h.e0
 e1:=(hb.cell (zS h.e1)).trans h.e1
 ne:=h.ne
 b0:=by obtain⟨ca,ta,h0⟩:=h.b0;exact⟨ca,ta,(hb.block _ (z1Z h0)).trans h0⟩
 b1:=by obtain⟨ca,ta,h0⟩:=h.b1;exact⟨ca,ta,(hb.block _ (z1Z h0)).trans h0⟩
theorem z6g(v:Value)(w:World):(callFunc 67 #[.iface 129 v]).run Tryd.prog w=.ok (.value (.iface 120 (.agg #[.pointer (some ⟨4,129,none⟩)]))) w:=by kernel_rfl
theorem z3f(w:World):(callFunc 88 #[.agg #[.pointer (some ⟨4,129,none⟩)]]).run Tryd.prog w=.ok (.value (.bool true)) w:=by kernel_rfl
theorem z8x:(Tryd.prog.info? 129).map (·.comparable)=some true:=by kernel_rfl
theorem z8z:(Tryd.prog.info? 153).map (·.size)=some 1:=by kernel_rfl
theorem zbC(v:Value)(xT:TypeId)(w:World):(Instr.typeAssert (.iface 129 v) xT 122 true).run Tryd.prog w=.ok (.tuple #[.nilIface,.bool false]) w:=run_typeAssert_lacksB Tryd.underlying122 (by kernel_rfl) (by kernel_rfl) v xT w
theorem z8J(v:Value)(xT:TypeId)(w:World):(Instr.typeAssert (.iface 129 v) xT 124 true).run Tryd.prog w=.ok (.tuple #[.nilIface,.bool false]) w:=run_typeAssert_lacksB Tryd.underlying124 (by kernel_rfl) (by kernel_rfl) v xT w
theorem z7N(v:Value)(xT:TypeId)(w:World):(Instr.typeAssert (.iface 129 v) xT 126 true).run Tryd.prog w=.ok (.tuple #[.nilIface,.bool false]) w:=run_typeAssert_lacksB Tryd.underlying126 (by kernel_rfl) (by kernel_rfl) v xT w
theorem z77(a:Addr)(w:World):
  Calls Tryd.prog 64 #[.iface 129 (.pointer (some a)),.iface 129 (.pointer (some a))] w fun e w'=>e=.returned (.bool true)∧w=w':=by
 obtain⟨i,hi,hcmp⟩:=gO z8x;obtain⟨j,hj,hjs⟩:=gO z8z;have tT:=z6g;have cT:=z3f;have heq:=run_eql_iface_ptr_same (P:=Tryd.prog) w a Tryd.underlying95 Tryd.underlying129 hi hcmp hj
 go_enter Tryd.func64,Tryd.ntmps64
 go_wp2
 refine wp_loop_rounds 1 ?_;rw[rounds_succ]
 go_wp2
 go_ret
 exact⟨rfl,rfl⟩
theorem z8C(b:Addr)(w:World):
  Calls Tryd.prog 64 #[.nilIface,.iface 129 (.pointer (some b))] w fun e w'=>e=.returned (.bool false)∧w=w':=by
 have hn:=run_eql_iface_nil_left (P:=Tryd.prog) w 129 (.pointer (some b)) Tryd.underlying95
 go_enter Tryd.func64,Tryd.ntmps64
 go_wp2
 go_ret
 exact⟨rfl,rfl⟩
theorem z9t(a b:Addr)(ca cb:Array Value)(ta tb:TypeId)(w:World)(hne:a≠b)(ha:w.heap[a.block]?=some (.cells ca ta (0,0)))(hb:w.heap[b.block]?=some (.cells cb tb (0,0))):
  Calls Tryd.prog 64 #[.iface 129 (.pointer (some a)),.iface 129 (.pointer (some b))] w fun e w'=>e=.returned (.bool false)∧w=w':=by
 obtain⟨i,hi,hcmp⟩:=gO z8x;obtain⟨j,hj,hjs⟩:=gO z8z;have tT:=z6g;have cT:=z3f;have nE:=zbC;have uE:=z8J;have vE:=z7N;have heq:=run_eql_iface_ptr_other (P:=Tryd.prog) w Tryd.underlying95 Tryd.underlying129 hi hcmp hj (by rw[hjs];decide) hne ha hb
 go_enter Tryd.func64,Tryd.ntmps64
 go_wp2
 refine wp_loop_rounds 1 ?_;rw[rounds_succ]
 go_wp2
 go_ret
 exact⟨rfl,rfl⟩
theorem z5C(w:World)(a0 a1:Addr)(hG:Glob w a0 a1):
  Calls Tryd.prog 59 #[.nilIface] w fun e w'=>e=.returned (.bool false)∧w=w':=by
 have e0:=hG.e0;have e1:=hG.e1;clear hG
 go_enter Tryd.func59,Tryd.ntmps59
 go_wp2_with fail
 refine(z8C _ _).mono ?_;rintro e w' ⟨rfl,rfl⟩
 go_wp2_with fail
 refine(z8C _ _).mono ?_;rintro e w' ⟨rfl,rfl⟩
 go_wp2_with fail
 go_ret
 exact⟨rfl,rfl⟩
theorem z5B(w:World)(a0 a1:Addr)(hG:Glob w a0 a1):
  Calls Tryd.prog 59 #[.iface 129 (.pointer (some a0))] w fun e w'=>e=.returned (.bool true)∧w=w':=by
 have e0:=hG.e0;have e1:=hG.e1;clear hG
 go_enter Tryd.func59,Tryd.ntmps59
 go_wp2_with fail
 refine(z77 _ _).mono ?_;rintro e w' ⟨rfl,rfl⟩
 go_wp2_with fail
 go_ret
 exact⟨rfl,rfl⟩
theorem z4Y(w:World)(a0 a1:Addr)(hG:Glob w a0 a1):
  Calls Tryd.prog 59 #[.iface 129 (.pointer (some a1))] w fun e w'=>e=.returned (.bool true)∧w=w':=by
 have e0:=hG.e0;have e1:=hG.e1;obtain⟨c0,t0,h0⟩:=hG.b0;obtain⟨c1,t1,h1⟩:=hG.b1;have H:=Lib.hid (z9t a1 a0 c1 c0 t1 t0 w hG.ne.symm h1 h0);clear hG h0 h1
 go_enter Tryd.func59,Tryd.ntmps59
 go_wp2_with fail
 refine H.out.mono ?_;rintro e w' ⟨rfl,rfl⟩
 go_wp2_with fail
 refine(z77 _ _).mono ?_;rintro e w' ⟨rfl,rfl⟩
 go_wp2_with fail
 go_ret
 exact⟨rfl,rfl⟩
end
end Go.Proofs.YtcpaleaajdilgaaDoor
end
