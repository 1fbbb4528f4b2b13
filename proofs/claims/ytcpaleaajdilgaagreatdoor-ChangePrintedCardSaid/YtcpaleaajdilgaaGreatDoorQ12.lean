/- Merged texts: Pcm Dt By PWire PWire2 PWire3 PClass PCls Px1 Px2 Px3 S33. No statement of the program is proved here. -/
import Derived.Test.YtcpaleaajdilgaaGreatDoorQ11
import Derived.Lib.ItoaNum
import Derived.Lib.Join
set_option linter.unusedSimpArgs false
set_option linter.unusedVariables false
set_option maxRecDepth 100000
set_option maxHeartbeats 8000000
section
namespace Go.Proofs.YtcpaleaajdilgaaGreatDoor
open Go Go.Mor
def I64(c:Int):Prop:= -9223372036854775808≤c∧c≤9223372036854775807
def z25(a b:Int):Int:=if a<b then -1 else if b<a then 1 else 0
def z03(c d:Int):Int:=if c=0 then d else c
def z2I(a b:zB):Int:=if Op.bytesLess a b then -1 else if a=b then 0 else 1
mutual
def cmpV:V→V→Int
 | .mk k n s l,y=>z03 (z25 k y.k) (z03 (z25 n y.n) (z03 (z2I s y.s) (z1u l y.l)))
def z1u:List V→List V→Int
 |[],[]=>0
 |[],_::_=> -1
 |_::_,[]=>1
 |x::l,y::l'=>z03 (cmpV x y) (z1u l l')
end
theorem z97(x y:V):cmpV x y=z03 (z25 x.k y.k) (z03 (z25 x.n y.n) (z03 (z2I x.s y.s) (z1u x.l y.l))):=by
 cases x;simp only[cmpV,V.k,V.n,V.s,V.l]
theorem zck{l l':List V}{i:Nat}{x y:V}(hx:l[i]?=some x)(hy:l'[i]?=some y):z1u (l.drop i) (l'.drop i)=z03 (cmpV x y) (z1u (l.drop (i+1)) (l'.drop (i+1))):=by
 grind [List.getElem?_eq_some_iff,List.drop_eq_getElem_cons,z1u]
theorem zab{l l':List V}{i:Nat}(h:i=min l.length l'.length):z1u (l.drop i) (l'.drop i)=z25 l.length l'.length:=by
 grind [z25,Nat.lt_trichotomy,List.drop_eq_nil_of_le,List.drop_eq_getElem_cons,z1u]
section
open Go.RowKit Go.Sh
theorem zr1:str []=(⟨#[]⟩:ByteArray):=rfl
def tyT(t:Ty):TV:=.agg [I t.k,I t.o]
def nv(x:V):TV:=.agg [I x.k,I x.n,S (str x.s),.pv (.v (.slice none 0 0))]
def V.row:V→List PV
 | .mk k n s l=>[.v (.int .i64 k),.v (.int .i64 n),.v (.string (str s)),.sl 4 (l.attach.map fun x=>V.row x.1)]
termination_by x=>SizeOf.sizeOf x
decreasing_by exact V.size_lt x.2 k n s
def V.rows(l:List V):List (List PV):=l.map V.row
theorem V.row_mk(k n:Int)(s:zB)(l:List V):V.row (.mk k n s l)=[.v (.int .i64 k),.v (.int .i64 n),.v (.string (str s)),.sl 4 (V.rows l)]:=by
 rw[V.row];simp[V.rows]
theorem V.rows_nil:V.rows []=[]:=rfl
theorem z0k(l:List V):V.rows l=l.map V.row:=rfl
def tv(x:V):TV:=.agg [I x.k,I x.n,S (str x.s),.pv (.sl 4 (V.rows x.l))]
theorem wk4{a b c x y:TV}(h:Wk x y):Wk (.agg [a,b,c,x]) (.agg [a,b,c,y]):=
 zfi rfl (fun j p q hp hq=>by
  match j with
  |0=>simp at hp hq;subst hp;subst hq;exact .refl _
  |1=>simp at hp hq;subst hp;subst hq;exact .refl _
  |2=>simp at hp hq;subst hp;subst hq;exact .refl _
  |3=>simp at hp hq;subst hp;subst hq;exact h
  |j+4=>simp at hp)
theorem z3s{x:V}(h:x.l=[]):Wk (nv x) (tv x):=by
 unfold nv tv;rw[h];exact wk4 (z56 4)
structure R1 where
 k:Int
 n:Int
 s:zB
structure RawV where
 k:Int
 n:Int
 s:zB
 l:List R1
def R1.ok(x:R1):Prop:=I64 x.k∧I64 x.n∧x.s.length≤9223372036854775807
def RawV.ok(x:RawV):Prop:=I64 x.k∧I64 x.n∧x.s.length≤9223372036854775807∧(∀y∈x.l,y.ok)∧x.l.length≤9223372036854775807
def R1.row(x:R1):List PV:=[.v (.int .i64 x.k),.v (.int .i64 x.n),.v (.string (str x.s))]
def RawV.tv(x:RawV):TV:=.agg [I x.k,I x.n,S (str x.s),.pv (.sl 3 (x.l.map R1.row))]
theorem zil{x:V}(h:x.l=[]):V.row x=[.v (.int .i64 x.k),.v (.int .i64 x.n),.v (.string (str x.s)),.sl 4 []]:=by
 cases x with
 |mk k n s l=>simp only[V.l]at h;subst h;simp[V.row_mk,V.rows,V.k,V.n,V.s]
theorem Vk(k n:Int)(s:zB)(l:List V):(V.mk k n s l).k=k:=rfl
theorem Vn(k n:Int)(s:zB)(l:List V):(V.mk k n s l).n=n:=rfl
theorem Vs(k n:Int)(s:zB)(l:List V):(V.mk k n s l).s=s:=rfl
theorem Vl(k n:Int)(s:zB)(l:List V):(V.mk k n s l).l=l:=rfl
theorem zgG(l:List V)(k:Nat):(V.rows l)[k]?=(l[k]?).map V.row:=by rw[z0k,List.getElem?_map]
theorem z1b(l:List V):(V.rows l).length=l.length:=by rw[z0k,List.length_map]
theorem z1k(y:V):V.row y=[.v (.int .i64 y.k),.v (.int .i64 y.n),.v (.string (str y.s)),.sl 4 (V.rows y.l)]:=by cases y;exact V.row_mk _ _ _ _
inductive VSmall:V→Prop where
 |mk {k n:Int} {s:zB} {l:List V} (h:l.length≤maxLen) (hs:∀y∈l,VSmall y):VSmall (.mk k n s l)
theorem VSmall.len{x:V}(h:VSmall x):x.l.length≤maxLen:=by cases h;assumption
theorem VSmall.sub{x y:V}(h:VSmall x)(hy:y∈x.l):VSmall y:=by cases h with|mk h hs=>exact hs y hy
def z1P(x:V):Prop:=x.s.length≤9223372036854775807
theorem znb{w:World}{E:Env}{r:Sh.Rows}{x:Int}{v:Value}(h:RelT w E r (I x) v):v=.int .i64 x:=val_rel h rfl
theorem znc{w:World}{E:Env}{r:Sh.Rows}{x:ByteArray}{v:Value}(h:RelT w E r (S x) v):v=.string x:=val_rel h rfl
def VOk(x:V):Prop:=z1P x∧∀y∈x.l,z1P y
def pvC(xs:List PV):List TV:=xs.map TV.pv
theorem z6W(ids:List Nat)(xs:List PV):List.map (fgt3 ids) (pvC xs)=pvC xs:=by
 unfold pvC;rw[List.map_map];exact List.map_congr_left fun x _=>by cases ids<;>rfl
theorem z9t(xs:List PV):List.flatMap TV.ids1 (pvC xs)=[]:=by
 unfold pvC;induction xs with
 |nil=>rfl
 |cons x xs ih=>rw[List.map_cons,List.flatMap_cons,ih];rfl
theorem z9u(ρ:Nat→Option Nat)(xs:List PV):seqO (TV.ren1 ρ) (pvC xs)=some (pvC xs):=by
 unfold pvC;induction xs with
 |nil=>rfl
 |cons x xs ih=>simp only[List.map_cons,seqO,ih];rfl
theorem zgA(xs:List PV):(pvC xs).length=xs.length:=by simp[pvC]
theorem zo6(xs:List PV)(i:Nat):(pvC xs)[i]?=(xs[i]?).map TV.pv:=by simp[pvC]
theorem z9v{xs:List PV}{i:Nat}(h:i<xs.length)(y:PV):List.take i (pvC xs)++[TV.pv y]++List.drop (i+1) (pvC xs)=pvC (xs.set i y):=by
 unfold pvC;rw[List.set_eq_take_append_cons_drop,if_pos h,List.map_append,List.map_cons,List.map_take,List.map_drop,List.append_assoc];rfl
theorem vV:type_of%(wa3 (wa8 @z6W @z9t @z9u @zgA @I.eq_1 @S.eq_1 @tv.eq_1 @nv.eq_1) (wa8 @tyT.eq_1 @RawV.tv.eq_1 @R1.row.eq_1 @zgG @z1b @z1k @Vk @Vn) (wa2 @Vs @Vl)):=wa3 (wa8 @z6W @z9t @z9u @zgA @I.eq_1 @S.eq_1 @tv.eq_1 @nv.eq_1) (wa8 @tyT.eq_1 @RawV.tv.eq_1 @R1.row.eq_1 @zgG @z1b @z1k @Vk @Vn) (wa2 @Vs @Vl)
def byR(l:zB):List (List PV):=l.map fun u=>[.v (.int .u8 u.toNat)]
theorem byP(l:zB):z1f (str l)=byR l:=by simp[z1f,byR,str]
theorem z49(a b:zB):byR a++byR b=byR (a++b):=by simp[byR]
theorem z4a(a:zB):(byR a).length=a.length:=by simp[byR]
theorem z3J:∀(a:zB),seqO Sh.byteOf (byR a)=some a
 |[]=>rfl
 |u::a=>by
  have ih:=z3J a;unfold byR at ih ⊢;simp only[List.map_cons,seqO,ih,Sh.byteOf];simp
theorem z4p(l:zB):(⟨l.toArray⟩:ByteArray)=str l:=rfl
end
end Go.Proofs.YtcpaleaajdilgaaGreatDoor
end

section
namespace Go.Mor
def mag(n:Int):Nat:=if n<0 then(-1-n).toNat else n.toNat
def sgn(n:Int):Nat:=if n<0 then 1 else 0
def z18:Nat→Nat→zB
 |0,_=>[]
 |f+1,m=>if m=0 then [] else UInt8.ofNat (m%128)::z18 f (m / 128)
def z4f(n:Int):zB:=UInt8.ofNat (mag n%64*2+sgn n)::z18 9 (mag n / 64)
def z87(l:zB):zB:=l.dropLast++(l.getLast?.map (·+128)).toList
def z4k(l:zB):zB:=l.foldl (fun acc g=>z87 acc++[g]) []
def num(n:Int):zB:=z4k (z4f n)
theorem z8A(l:zB)(g:UInt8):z4k (l++[g])=z87 (z4k l)++[g]:=by simp[z4k]
theorem zfo(l:zB):(z87 l).length=l.length:=by
 rcases List.eq_nil_or_concat l with rfl|⟨Q,b,rfl⟩
 ·rfl
 ·simp[z87]
theorem z9G(l:zB):∀acc:zB,(l.foldl (fun acc g=>z87 acc++[g]) acc).length=acc.length+l.length:=by
 induction l<;>grind [zfo]
theorem z4Q(l:zB):(z4k l).length=l.length:=by rw[z4k,z9G];simp
theorem z7L(f:Nat):z18 f 0=[]:=by cases f<;>simp[z18]
theorem zf6(f:Nat):∀m,(z18 f m).length≤f:=by
 induction f with
 |zero=>grind [z18]
 |succ f ih=>intro m;simp only[z18];split;simp;simp;exact ih _
theorem zd4(n:Int):(z4f n).length≤10:=by
 grind [zf6,mag,z4f]
theorem z2d(n:Int):(num n).length≤10:=by rw[num,z4Q];exact zd4 n
theorem znZ(n:Int):0<(num n).length:=by rw[num,z4Q];simp[z4f]
abbrev Ix:Type:=Fin 1125899906842624
def z0m:Nat→Nat×Nat→zB→Except Bool (Nat×Nat×Nat)
 |_,_,[]=> .error false
 |k,st,b::r=>
  if k≠0∧(b.toNat=0∨k=9∧1<b.toNat)then .error true else
  let g:=b.toNat%128
  let st':=if k=0 then(g / 2,g%2)else(st.1+g*2 ^ (7*k-1),st.2)
  if b.toNat<128 then .ok (st'.1,st'.2,k+1)else z0m (k+1) st' r
def z2p(st:Nat×Nat)(x:Ix×UInt8):Nat×Nat:=
 if x.1.val=0 then(x.2.toNat%128 / 2,x.2.toNat%128%2)else(st.1+x.2.toNat%128*2 ^ (7*x.1.val-1),st.2)
def stM(pre:List (Ix×UInt8)):Nat×Nat:=pre.foldl z2p (0,0)
theorem z7J(pre:List (Ix×UInt8))(x:Ix×UInt8):stM (pre++[x])=z2p (stM pre) x:=by simp[stM]
def z2m(s:zB)(a:Nat):List (Ix×UInt8):=(s.drop a).zipIdx.map fun p=>(Fin.ofNat _ p.2,p.1)
theorem z4l(s:zB)(a:Nat):(z2m s a).length=s.length-a:=by simp[z2m]
theorem zcG(s:zB)(a k:Nat)(h:a+k<s.length):(z2m s a)[k]?=some (Fin.ofNat _ k,s[a+k]):=by
 simp[z2m,List.getElem?_drop,gE h]
theorem zbf(s:zB)(a k:Nat)(h:a+k<s.length):(z2m s a).take (k+1)=(z2m s a).take k++[(Fin.ofNat _ k,s[a+k])]:=by
 grind [List.take_add_one,zcG]
def rd(s:zB)(a:Int):Except Bool (Int×Nat):=
 if 0≤a∧a<s.length then
  match z0m 0 (0,0) (s.drop a.toNat)with
  | .error e=> .error e
  | .ok (m,sg,z)=> .ok (if sg=1 then -1-(m:Int)else m,z)
 else .error false
def Begs(s:zB)(a:Nat)(pre:List (Ix×UInt8)):Prop:=pre<+:z2m s a
theorem Begs.last{s:zB}{a:Nat}{pre:List (Ix×UInt8)}{x:Ix×UInt8}(h:Begs s a (pre++[x]))(hs:s.length<1125899906842624):
  Begs s a pre∧x.1.val=pre.length∧∃hl:a+pre.length<s.length,x.2=s[a+pre.length]:=by
 have hg:Begs s a pre:=(List.prefix_append pre [x]).trans h;have hlen:=h.length_le;rw[z4l]at hlen;have h2:=List.prefix_iff_getElem?.1 h pre.length (by simp)
 grind [zcG]
structure Mid(s:zB)(a:Nat)(pre:List (Ix×UInt8))(m sg:Int):Prop where
 m:m=(stM pre).1
 sg:sg=(stM pre).2
 go:z0m 0 (0,0) (s.drop a)=z0m pre.length (stM pre) (s.drop (a+pre.length))
 lt:(stM pre).1<2 ^ (7*pre.length-1)
 le:pre.length≤9
theorem zkY:z87 []=[]:=rfl
theorem zoL(b:UInt8):((b+128).toNat:Int)=((b.toNat:Int)+128)%256:=by
 simp
theorem zci(Q:zB)(b:UInt8):z87 (Q++[b])=Q++[b+128]:=by
 simp[z87]
theorem zoo{α:Type}(l:List α)(h:l≠[]):∃Q b,l=Q++[b]:=⟨l.dropLast,l.getLast h,(List.dropLast_concat_getLast h).symm⟩
theorem zjh(x:Int)(h:x<0):((UInt8.ofNat (mag x%64*2+sgn x)).toNat:Int)=(-1-x)%64*2+1:=by
 simp only[mag,sgn,if_pos h,UInt8.toNat_ofNat'];omega
theorem zji(x:Int)(h:¬x<0):((UInt8.ofNat (mag x%64*2+sgn x)).toNat:Int)=x%64*2:=by
 simp only[mag,sgn,if_neg h,UInt8.toNat_ofNat'];omega
theorem zjF(m:Nat):((UInt8.ofNat (m%128)).toNat:Int)=(m:Int)%128:=by
 simp;omega
theorem zjA(x:Int):(mag x:Int)=if x<0 then -1-x else x:=by simp only[mag];split<;>omega
theorem zps(x:Int)(h0: -9223372036854775808≤x)(h1:x≤9223372036854775807):mag x<9223372036854775808:=by
 grind [zjA]
section
open Go
theorem z1M{s:zB}{i:Nat}(h:i<s.length):s.drop i=s[i]::s.drop (i+1):=by simp
theorem Mid.at{s:zB}{a:Nat}{pre:List (Ix×UInt8)}{x:Ix×UInt8}{m sg:Int}(hs:s.length<1125899906842624)(hM:Begs s a pre→Mid s a pre m sg)(hg:Begs s a (pre++[x])):
  Mid s a pre m sg∧x.1.val=pre.length∧z0m 0 (0,0) (s.drop a)=z0m pre.length (stM pre) (x.2::s.drop (a+(pre++[x]).length)):=by
 obtain⟨hg',hx,hl,hb⟩:=hg.last hs;have hm:=hM hg';refine⟨hm,hx,?_⟩;rw[hm.go,z1M hl,hb]
 grind
theorem Mid.err{s:zB}{a:Nat}{pre:List (Ix×UInt8)}{x:Ix×UInt8}{m sg:Int}(hs:s.length<1125899906842624)(hM:Begs s a pre→Mid s a pre m sg)(hk:¬x.1.val=0)(hbad:x.2.toNat=0∨x.1.val=9∧1<x.2.toNat)
  (hg:Begs s a (pre++[x])):z0m 0 (0,0) (s.drop a)=.error true:=by
 grind [Mid.at,z0m]
theorem Mid.ok{s:zB}{a:Nat}{pre:List (Ix×UInt8)}{x:Ix×UInt8}{m sg:Int}(hs:s.length<1125899906842624)(hM:Begs s a pre→Mid s a pre m sg)(hbad:¬(x.1.val≠0∧(x.2.toNat=0∨x.1.val=9∧1<x.2.toNat)))
  (hlo:x.2.toNat<128) (hg:Begs s a (pre++[x])):z0m 0 (0,0) (s.drop a)=.ok ((z2p (stM pre) x).1,(z2p (stM pre) x).2,x.1.val+1):=by
 obtain⟨hm,hx,hr⟩:=Mid.at hs hM hg;rw[hr,z0m,if_neg (by omega),←hx];simp only[hlo,if_true,z2p]
theorem zop{st:Nat×Nat}{x:Ix×UInt8}(h:st.1<2 ^ (7*x.1.val-1)):(z2p st x).1<2 ^ (7*(x.1.val+1) - 1):=by
 unfold z2p;by_cases h0:x.1.val=0
 ·grind
 ·rw[if_neg h0];have e:7*(x.1.val+1) - 1=7*x.1.val-1+7:=by omega
  rw[e,Nat.pow_add];have h2:x.2.toNat%128*2 ^ (7*x.1.val-1)≤127*2 ^ (7*x.1.val-1):=Nat.mul_le_mul_right _ (by omega);omega
theorem Mid.cont{s:zB}{a:Nat}{pre:List (Ix×UInt8)}{x:Ix×UInt8}{m sg:Int}(hs:s.length<1125899906842624)(hM:Begs s a pre→Mid s a pre m sg)(hbad:¬(x.1.val≠0∧(x.2.toNat=0∨x.1.val=9∧1<x.2.toNat)))
  (hlo:128≤x.2.toNat) (hg:Begs s a (pre++[x])):Mid s a (pre++[x]) ((z2p (stM pre) x).1:Nat) ((z2p (stM pre) x).2:Nat):=by
 obtain⟨hm,hx,hr⟩:=Mid.at hs hM hg;have hlen:(pre++[x]).length=x.1.val+1:=by simp[hx]
 refine⟨by rw[z7J],by rw[z7J],?_,?_,?_⟩
 ·rw[hr,z0m,if_neg (by omega),z7J,←hx];have h1:¬x.2.toNat<128:=by omega
  simp only[h1,if_false,hlen];rfl
 ·rw[z7J,hlen];exact zop (by rw[hx];exact hm.lt)
 ·have:=hm.le;omega
theorem zpC(A g i:Nat)(h:A<2 ^ i):A|||g*2 ^ i=A+g*2 ^ i:=by
 grind [Nat.two_pow_add_eq_or_of_lt,Nat.mul_comm,Nat.add_comm]
theorem zo2{s:zB}{a:Nat}{pre:List (Ix×UInt8)}{x:Ix×UInt8}{m sg G:Int}(hs:s.length<1125899906842624)(hM:Begs s a pre→Mid s a pre m sg)(hk:¬x.1.val=0)(hbad:¬(x.2.toNat=0∨x.1.val=9∧1<x.2.toNat))
  (hG:G=IntKind.u64.wrap ((x.2.toNat:Int)%128*2 ^ min (7*x.1.val-1) 64)) (hg:Begs s a (pre++[x])):
  bits .or .u64 m G=((z2p (stM pre) x).1:Nat)∧sg=((z2p (stM pre) x).2:Nat):=by
 obtain⟨hm,hx,_⟩:=Mid.at hs hM hg;have hle:=hm.le;have hlt:=hm.lt;rw[←hx]at hle hlt;have hmin:min (7*x.1.val-1) 64=7*x.1.val-1:=by omega
 have hpow:2 ^ (7*x.1.val-1)≤2 ^ 62:=Nat.pow_le_pow_right (by omega) (by omega);have hval:x.2.toNat%128*2 ^ (7*x.1.val-1)<18446744073709551616:=by
  by_cases h9:x.1.val=9
  ·grind
  ·have h8:2 ^ (7*x.1.val-1)≤2 ^ 55:=Nat.pow_le_pow_right (by omega) (by omega);have:x.2.toNat%128≤127:=by omega
   have:=Nat.mul_le_mul this h8;omega
 have hG':G=((x.2.toNat%128*2 ^ (7*x.1.val-1):Nat):Int):=by
  rw[hG,hmin];have e:(x.2.toNat:Int)%128*2 ^ (7*x.1.val-1)=((x.2.toNat%128*2 ^ (7*x.1.val-1):Nat):Int):=by simp
  rw[e,IntKind.wrap_u64];omega
 rw[hG',hm.m,u64_or_nat _ _ (by omega) hval,zpC _ _ _ hlt,hm.sg];simp only[z2p,if_neg hk,true_and]
theorem z7B:∀(l:zB) (k:Nat) (st:Nat×Nat) {m sg z:Nat},k≤9→st.1<2 ^ (7*k-1)→(k=0∨st.2≤1)→z0m k st l=.ok (m,sg,z)→
  m<9223372036854775808∧sg≤1∧k<z∧z≤10∧z≤k+l.length
 |[],k,st,m,sg,z,_,_,_,h=>by simp[z0m]at h
 |b::r,k,st,m,sg,z,hk,hlt,hsg,h=>by
  rw[z0m]at h;by_cases hbad:k≠0∧(b.toNat=0∨k=9∧1<b.toNat)
  ·grind
  rw[if_neg hbad]at h;have hst:(if k=0 then(b.toNat%128 / 2,b.toNat%128%2)else(st.1+b.toNat%128*2 ^ (7*k-1),st.2)).1<2 ^ (7*(k+1) - 1)∧
    (if k=0 then(b.toNat%128 / 2,b.toNat%128%2)else(st.1+b.toNat%128*2 ^ (7*k-1),st.2)).2≤1∧
    (k=9→(if k=0 then(b.toNat%128 / 2,b.toNat%128%2)else(st.1+b.toNat%128*2 ^ (7*k-1),st.2)).1<9223372036854775808):=by
   by_cases h0:k=0
   ·grind
   ·simp;have e:7*(k+1) - 1=7*k-1+7:=by omega
    have h2:b.toNat%128*2 ^ (7*k-1)≤127*2 ^ (7*k-1):=Nat.mul_le_mul_right _ (by omega)
    grind
  obtain⟨h1,h2,h3⟩:=hst
  dsimp only at h
  generalize(if k=0 then(b.toNat%128 / 2,b.toNat%128%2)else(st.1+b.toNat%128*2 ^ (7*k-1),st.2))=q at*;by_cases hlo:b.toNat<128
  ·rw[if_pos hlo]at h;obtain⟨rfl,rfl,rfl⟩:=h;refine⟨?_,h2,by omega,by omega,by simp⟩;by_cases h9:k=9
   ·omega
   ·have:2 ^ (7*(k+1) - 1)≤2 ^ 62:=Nat.pow_le_pow_right (by omega) (by omega);omega
  ·rw[if_neg hlo]at h;have:=z7B r (k+1) q (by omega) h1 (.inr h2) h
   grind
end
def z0j(s:zB)(a:Int):Option (Int×Int):=
 match rd s a with
 | .ok (n,z)=>some (n,a+z)
 | .error _=>none
def rdW(s:zB)(a:Int):Except Bool (zB×Int):=
 match rd s a with
 | .error e=> .error e
 | .ok (n,z)=>if n<0∨10000<n then .error true else if s.length-(a+z)<n then .error false else .ok ((s.drop (a+z).toNat).take n.toNat,a+z+n)
def z00(s:zB)(a:Int):Option (zB×Int):=
 match rdW s a with
 | .ok (t,b)=>some (t,b)
 | .error _=>none
def zjQ(r:Option (Int×Int)):Value:=match r with|some (n,b)=> .tuple #[.int .i64 n,.int .i64 b,.int .i64 0]|none=> .tuple #[.int .i64 0,.int .i64 0,.int .i64 10]
def zgD(r:Option (zB×Int)):Value:=match r with|some (t,b)=> .tuple #[.string (str t),.int .i64 b,.int .i64 0]|none=> .tuple #[.string (str []),.int .i64 0,.int .i64 10]
def text(s:zB):zB:=num s.length++s
def z71(s:zB):Value:=if s.length≤10000 then .tuple #[.string (str (text s)),.int .i64 0] else .tuple #[.string (str []),.int .i64 10]
theorem zav{s:zB}{a:Int}{n:Int}{z:Nat}(h:rd s a=.ok (n,z)):0≤a∧a+z≤s.length∧ -9223372036854775808≤n∧n≤9223372036854775807∧0<z∧z≤10:=by
 unfold rd at h;split at h
 ·rename_i hin;split at h
  ·cases h
  ·rename_i m sg z' he;have:=z7B _ 0 (0,0) (by omega) (by decide) (.inl rfl) he
   grind
 ·cases h
theorem z7U{s:zB}{a n b:Int}(h:z0j s a=some (n,b)):0≤a∧a<b∧b≤s.length∧ -9223372036854775808≤n∧n≤9223372036854775807:=by
 unfold z0j at h;split at h
 ·rename_i n' z he;obtain⟨rfl,rfl⟩:=h;have:=zav he;omega
 ·cases h
theorem zbU{s t:zB}{a b:Int}(h:z00 s a=some (t,b)):0≤a∧a<b∧b≤s.length∧t.length≤10000:=by
 unfold z00 at h;split at h
 ·rename_i t' b' he;unfold rdW at he;split at he
  ·cases he
  ·rename_i n z hr;have:=zav hr
   grind
 ·cases h
section
open Go Go.RowKit
structure Fld where
 n:zB
 t:Ty
 ix:Bool
structure Cls where
 n:zB
 fs:List Fld
def small(b:UInt8):Bool:=decide (97≤b.toNat∧b.toNat≤122)
def zI(b:UInt8):Bool:=small b||decide (48≤b.toNat∧b.toNat≤57)||b.toNat==95
def zb(s:zB):Bool:=decide (1≤s.length∧s.length≤20)&&small (s.headD 0)&&s.all zI
def zG(f:Fld):Bool:=zb f.n&&zg f.t&&(!f.ix||decide (f.t.k≤3))
def fieldAt(c:List Fld)(name:zB):Int:=z0F (fun f=>f.n==name) c
def z2U(all:List Fld):Nat→List Fld→Bool
 |_,[]=>true
 |k,f::r=>zG f&&fieldAt all f.n==k&&z2U all (k+1) r
def zn(c:Cls):Bool:=zb c.n&&decide (c.fs.length≤8)&&z2U c.fs 0 c.fs
def z60(f g:Fld):Bool:=f.n==g.n&&f.t.k==g.t.k&&f.t.o==g.t.o&&f.ix==g.ix
def z1H:List Fld→List Fld→Bool
 |[],[]=>true
 |f::r,g::q=>z60 f g&&z1H r q
 |_,_=>false
def z6f(a b:Cls):Bool:=a.n==b.n&&z1H a.fs b.fs
def z2w:Nat→List Fld→List V→Int×Int
 |_,[],_=>(0,0)
 |_,_,[]=>(0,0)
 |k,f::fs,v::vs=>if zD v f.t then z2w (k+1) fs vs else(k,42)
def z1Z(c:Cls)(vs:List V):Int×Int:=
 if !zn c then(0,40)else if vs.length≠c.fs.length then((min vs.length c.fs.length:Nat),42)else z2w 0 c.fs vs
def IsF(ok:Nat→Prop)(w:World)(l:List Fld)(c:Value):Prop:=
 ∃(b off cap:Nat) (p:Option Addr),c=.slice p l.length cap∧l.length≤cap∧cap≤maxLen∧(l≠[]→p=some ⟨b,off,none⟩∧ok b)∧
  ∀(i:Nat) (f:Fld),l[i]?=some f→w.cell? ⟨b,off+i*4,none⟩=some (.string (str f.n))∧w.cell? ⟨b,off+i*4+1,none⟩=some (.int .i64 f.t.k)
   ∧w.cell? ⟨b,off+i*4+2,none⟩=some (.int .i64 f.t.o)∧w.cell? ⟨b,off+i*4+3,none⟩=some (.bool f.ix)
theorem IsF.keepBy{ok:Nat→Prop}{w w':World}{l:List Fld}{c:Value}(h:IsF ok w l c)(hk:∀a v,ok a.block→w.cell? a=some v→w'.cell? a=some v):IsF ok w' l c:=by
 obtain⟨b,off,cap,p,h1,h2,h3,h4,h5⟩:=h;refine⟨b,off,cap,p,h1,h2,h3,h4,fun i f hf=> ?_⟩
 grind
theorem IsF.ext{ok:Nat→Prop}{w w':World}{l:List Fld}{c:Value}(h:IsF ok w l c)(hb:Below w.heap.size w w'):IsF ok w' l c:=
 h.keepBy fun _ _ _ hv=>(hb.cell (z0f hv)).trans hv
theorem IsF.keep{ok:Nat→Prop}{w w':World}{l:List Fld}{c:Value}(h:IsF ok w l c)(hk:∀b,ok b→w'.heap[b]?=w.heap[b]?):IsF ok w' l c:=
 h.keepBy fun a _ ho hv=>(World.cell?_of_block (w:=w) (hk a.block ho)).trans hv
theorem IsF.weaken{ok ok':Nat→Prop}{w:World}{l:List Fld}{c:Value}(h:IsF ok w l c)(hk:∀b,ok b→ok' b):IsF ok' w l c:=by
 obtain⟨b,off,cap,p,h1,h2,h3,h4,h5⟩:=h;exact⟨b,off,cap,p,h1,h2,h3,fun hl=>⟨(h4 hl).1,hk _ (h4 hl).2⟩,h5⟩
theorem IsF.none_{ok:Nat→Prop}{w:World}:IsF ok w [] (.slice none 0 0):=⟨0,0,0,none,rfl,by simp,Nat.zero_le _,by simp,by simp⟩
def pick(c n:Int):Int:=(if c<0 then -(c+1)else c)%n
theorem zF(c n:Int)(hn:0<n):0≤pick c n∧pick c n<n:=⟨Int.emod_nonneg _ (by omega),Int.emod_lt_of_pos _ hn⟩
structure RawF where
 n:Int
 k:Int
 o:Int
 ix:Bool
structure Raw where
 n:Int
 fs:List RawF
def nmF(i:Int):zB:=([[97],[98,50],[110,97,109,101],[110,101,120,116,95,111,110,101],[107,105,100,115],[120]]:List (zB)).getD i.toNat []
def nmC(i:Int):zB:=([[110,111,100,101],[105,116,101,109],[117,115,101,114],[112,97,103,101,95,49],[108,101,97,102],[113]]:List (zB)).getD i.toNat []
def z3l(r:RawF):Fld:=⟨nmF (pick r.n 6),⟨1+pick r.k 5,if pick r.k 5=4 then 1+pick r.o 4 else 0⟩,r.ix&&decide (1+pick r.k 5≤3)⟩
def z1C(acc:List Fld)(r:RawF):List Fld:=if fieldAt acc (z3l r).n<0 then acc++[z3l r] else acc
def z1Q(x:Raw):Cls:=⟨nmC (pick x.n 6),(x.fs.take 6).foldl z1C []⟩
theorem z7g{α:Type}(p:α→Bool)(l:List α)(k:Nat)(x:α)(hx:l[k]?=some x)(hp:p x=true)(h:∀(i:Nat) y,i<k→l[i]?=some y→p y=false):z0F p l=k:=by
 have:l.findIdx? p=some k:=by
  grind [List.findIdx?_eq_some_iff_getElem,List.getElem?_eq_some_iff,List.getElem?_eq_getElem]
 simp[z0F,this]
theorem z3m{α:Type}(p:α→Bool)(l:List α)(k:Nat)(h:z0F p l=k):∃x,l[k]?=some x∧p x=true:=by
 grind [z0F,List.findIdx?_eq_some_iff_getElem,List.getElem?_eq_getElem]
theorem z6w{α:Type}(p:α→Bool)(l:List α):z0F p l<0 ↔ ∀x∈l,p x=false:=by
 grind [z0F,List.findIdx?_eq_none_iff,List.findIdx?_eq_some_iff_getElem,List.getElem_mem]
def z6r(l:List Fld):Prop:=∀(i j:Nat) (f g:Fld),l[i]?=some f→l[j]?=some g→f.n=g.n→i=j
theorem zhP(all:List Fld):∀(r:List Fld) (k:Nat),z2U all k r=true ↔ ∀(i:Nat) f,r[i]?=some f→zG f=true∧fieldAt all f.n=((k+i:Nat):Int):=by
 intro r
 induction r with
 |nil=>grind [z2U]
 |cons g r ih=>
  intro k;rw[z2U,Bool.and_eq_true,Bool.and_eq_true,ih (k+1)];constructor
  ·grind
  ·intro h;have h0:=h 0 g (by simp);refine⟨⟨h0.1,by simpa using h0.2⟩,fun i f hf=> ?_⟩;have:=h (i+1) f (by grind)
   grind
theorem zgj{l:List Fld}(h:z6r l){i:Nat}{f:Fld}(hf:l[i]?=some f):fieldAt l f.n=i:=by
 refine z7g _ l i f hf (by simp) fun j y hj hy=> ?_;rw[beq_eq_false_iff_ne];intro he;have:=h j i y f hy hf he;omega
theorem z2f(c:Cls):zn c=true ↔ zb c.n=true∧c.fs.length≤8∧(∀f∈c.fs,zG f=true)∧z6r c.fs:=by
 rw[zn,Bool.and_eq_true,Bool.and_eq_true,zhP,decide_eq_true_iff];constructor
 ·rintro⟨⟨h1,h2⟩,h3⟩;refine⟨h1,h2,fun f hf=> ?_,fun i j f g hi hj he=> ?_⟩
  ·grind [List.getElem?_of_mem]
  ·grind
 ·grind [List.mem_of_getElem?,zgj]
theorem zjL(j:Int)(h0:0≤j)(h1:j<6):zb (nmF j)=true∧(nmF j).length≤8:=by
 have:j=0∨j=1∨j=2∨j=3∨j=4∨j=5:=by omega
 rcases this with rfl|rfl|rfl|rfl|rfl|rfl<;>decide
theorem zjK(j:Int)(h0:0≤j)(h1:j<6):zb (nmC j)=true∧(nmC j).length≤8:=by
 have:j=0∨j=1∨j=2∨j=3∨j=4∨j=5:=by omega
 rcases this with rfl|rfl|rfl|rfl|rfl|rfl<;>decide
theorem zd3(r:RawF):zG (z3l r)=true∧(z3l r).n.length≤8:=by
 have h1:=zF r.n 6 (by omega);have h2:=zF r.k 5 (by omega);have h3:=zF r.o 4 (by omega);have h4:=zjL _ h1.1 h1.2;refine⟨?_,h4.2⟩;simp only[zG,z3l,h4.1,Bool.true_and,Bool.and_eq_true]
 grind [zg]
theorem zj4{l:List Fld}{f:Fld}(h:z6r l)(hn:fieldAt l f.n<0):z6r (l++[f]):=by
 have hno:=(z6w _ _).1 hn;intro i j a b ha hb he;rw[List.getElem?_append]at ha hb;split at ha<;>split at hb
 ·exact h i j a b ha hb he
 ·grind
 ·grind
 ·grind
theorem zjj:∀(rs:List RawF) (acc:List Fld),(∀f∈acc,zG f=true∧f.n.length≤8)→z6r acc→
  (∀f∈rs.foldl z1C acc,zG f=true∧f.n.length≤8)∧z6r (rs.foldl z1C acc)∧(rs.foldl z1C acc).length≤acc.length+rs.length:=by
 intro rs
 induction rs with
 |nil=>intro acc h1 h2;exact⟨h1,h2,by simp⟩
 |cons r rs ih=>
  intro acc h1 h2;rw[List.foldl_cons];by_cases hn:fieldAt acc (z3l r).n<0
  ·have:z1C acc r=acc++[z3l r]:=by rw[z1C,if_pos hn]
   rw[this];have:=ih (acc++[z3l r]) (fun f hf=>by
    rcases List.mem_append.1 hf with hf|hf
    ·exact h1 f hf
    ·obtain rfl:=List.mem_singleton.1 hf;exact zd3 r) (zj4 h2 hn)
   refine⟨this.1,this.2.1,?_⟩;simp at this ⊢;omega
  ·have:z1C acc r=acc:=by rw[z1C,if_neg hn]
   rw[this];have:=ih acc h1 h2;refine⟨this.1,this.2.1,?_⟩;simp at this ⊢;omega
structure GoodC(c:Cls):Prop where
 nm:zb c.n=true∧c.n.length≤8
 fs:∀f∈c.fs,zG f=true∧f.n.length≤8
 di:z6r c.fs
 len:c.fs.length≤6
theorem zdO(x:Raw):GoodC (z1Q x):=by
 have h:=zjj (x.fs.take 6) [] (by simp) (by intro i j f g h;simp at h);have hb:=zF x.n 6 (by omega);exact⟨zjK _ hb.1 hb.2,h.1,h.2.1,by have:=h.2.2;simp only[z1Q];simp at this ⊢;omega⟩
theorem GoodC.right{c:Cls}(h:GoodC c):zn c=true:=(z2f c).2 ⟨h.nm.1,by have:=h.len;omega,fun f hf=>(h.fs f hf).1,h.di⟩
end
section
open Go
def zu(s:zB):Int:=
 if s=[42]∨s=[47]∨s=[37] then 4 else if s=[43]∨s=[45] then 3 else if s=[38] then 2
 else if s=[61]∨s=[60,62]∨s=[60]∨s=[60,61]∨s=[62]∨s=[62,61] then 1 else 0
def zq(s:zB):Int:=
 if s=[108,101,110]∨s=[116,101,120,116]∨s=[110,117,109] then 1
 else if s=[108,101,102,116]∨s=[114,105,103,104,116]∨s=[102,114,111,109]∨s=[102,105,110,100]∨s=[109,105,110]∨s=[109,97,120] then 2
 else if s=[105,102] then 3 else 0
def z0y(e:V):Bool:=
 if e.k≠1∧e.n≠0 then false
 else if e.k=1 then decide (0≤e.n)&&decide (e.n≤1000000000000000)&&e.s==[]&&e.l.length==0
 else if e.k=2 then zh e.s&&e.l.length==0
 else if e.k=3 then zb e.s&&e.l.length==0
 else if e.k=4 then decide (0<zu e.s)&&e.l.length==2
 else if e.k=5 then e.s==[45]&&e.l.length==1
 else if e.k=6 then decide (0<zq e.s)&&decide ((e.l.length:Int)=zq e.s)
 else false
def okE:Nat→V→Bool
 |0,_=>false
 |d+1,e=>z0y e&&e.l.all (okE d)
def szE:Nat→V→Nat
 |0,_=>1
 |d+1,e=>1+(e.l.map (szE d)).sum
def z0q(e:V):Bool:=okE 8 e&&decide (szE 8 e≤40)
def zeJ(s:zB):zB:=s.flatMap fun b=>if b=34∨b=92 then [92,b] else [b]
def brk(t:zB):zB:=40::(t++[41])
def z5I(e:V)(zi:Int)(t:zB):zB:=if e.k=4∧zu e.s<zi then brk t else t
def z19:Nat→V→zB
 |0,_=>[]
 |d+1,e=>
  if e.k=1 then Lib.itoa e.n
  else if e.k=2 then 34::(zeJ e.s++[34])
  else if e.k=5 then 45::z5I (e.l.getD 0 V.nil) 5 (z19 d (e.l.getD 0 V.nil))
  else if e.k=4 then z5I (e.l.getD 0 V.nil) (zu e.s) (z19 d (e.l.getD 0 V.nil))++32::(e.s++32::z5I (e.l.getD 1 V.nil) (zu e.s+1) (z19 d (e.l.getD 1 V.nil)))
  else if e.k=6 then e.s++40::(Lib.join (e.l.map (z19 d)) [44,32]++[41])
  else e.s
structure Pc where
 k:Int
 n:Int
 s:zB
 p:Nat
def z1v(b:UInt8):Bool:=decide (48≤b.toNat∧b.toNat≤57)
def z15:zB→Int→Nat→Int×Nat
 |[],n,z=>(n,z)
 |b::r,n,z=>if z1v b then z15 r (min (10*n+((b.toNat:Int) - 48)) 1000000000000001) (z+1)else(n,z)
def z0G:zB→Nat
 |[]=>0
 |b::r=>if zI b then z0G r+1 else 0
def quoG:zB→zB→Nat→Option (zB×Nat)
 |[],_,_=>none
 |b::r,acc,k=>if b=34 then(if zh acc then some (acc,k+1)else none)
  else if b=92 then(match r with
   |[]=>none
   |c::r'=>if c=34∨c=92 then quoG r' (acc++[c]) (k+2)else none)
  else quoG r (acc++[b]) (k+1)
def z0Z:zB→zB
 |[]=>[]
 |b::r=>if b=60 then(if r.head?=some 62 then [60,62] else if r.head?=some 61 then [60,61] else [60])
  else if b=62 then(if r.head?=some 61 then [62,61] else [62])
  else if b=61∨b=38∨b=43∨b=45∨b=42∨b=47∨b=37∨b=40∨b=41∨b=44 then [b] else []
def z0b(l:zB)(at_:Nat):Option (Pc×Nat):=
 match l with
 |[]=>none
 |b::r=>
  if z1v b then(if 1000000000000000<(z15 l 0 0).1 then none else some (⟨1,(z15 l 0 0).1,[],at_⟩,(z15 l 0 0).2))
  else if small b then(if zb (l.take (z0G l))then some (⟨3,0,l.take (z0G l),at_⟩,z0G l)else none)
  else if b=34 then(match quoG r [] 1 with
   |some (t,k)=>some (⟨2,0,t,at_⟩,k)
   |none=>none)
  else if z0Z l=[] then none else some (⟨4,0,z0Z l,at_⟩,(z0Z l).length)
inductive Lx where
 |ok (L:List Pc)
 |bad (p:Nat)
def z0w:Nat→zB→Nat→List Pc→Option Lx
 |0,_,_,_=>none
 |f+1,l,at_,acc=>match l with
  |[]=>some (.ok acc)
  |b::r=>if b=32 then z0w f r (at_+1) acc else match z0b l at_ with
   |none=>some (.bad at_)
   |some (q,z)=>z0w f (l.drop z) (at_+z) (acc++[q])
inductive Rs(α:Type) where
 |ok (e:α) (p:Nat)
 |bad (a p:Nat)
def pkP(L:List Pc)(sz p:Nat):Pc:=(L[p]?).getD ⟨0,0,[],sz⟩
def zX(q:Pc)(t:zB):Bool:=q.k==4&&q.s==t
mutual
def pE(L:List Pc)(sz:Nat):Nat→Int→Nat→Option (Rs V)
 |0,_,_=>none
 |f+1,zi,p=>match pT L sz f p with
  |some (.ok e p')=>pL L sz f zi e p'
  |some (.bad a p')=>some (.bad a p')
  |none=>none
def pL(L:List Pc)(sz:Nat):Nat→Int→V→Nat→Option (Rs V)
 |0,_,_,_=>none
 |f+1,zi,e,p=>
  if(pkP L sz p).k≠4∨zu (pkP L sz p).s<zi then some (.ok e p)
  else match pE L sz f (zu (pkP L sz p).s+1) (p+1)with
   |some (.ok e2 p2)=>pL L sz f zi (.mk 4 0 (pkP L sz p).s [e,e2]) p2
   |some (.bad a p')=>some (.bad a p')
   |none=>none
def pT(L:List Pc)(sz:Nat):Nat→Nat→Option (Rs V)
 |0,_=>none
 |f+1,p=>
  if zX (pkP L sz p) [40] then(match pE L sz f 1 (p+1)with
   |some (.ok e p')=>if zX (pkP L sz p') [41] then some (.ok e (p'+1))else some (.bad (pkP L sz p').p p')
   |some (.bad a p')=>some (.bad a p')
   |none=>none)
  else if zX (pkP L sz p) [45] then(match pT L sz f (p+1)with
   |some (.ok e p')=>some (.ok (.mk 5 0 [45] [e]) p')
   |some (.bad a p')=>some (.bad a p')
   |none=>none)
  else if(pkP L sz p).k=1 then some (.ok (.mk 1 (pkP L sz p).n [] []) (p+1))
  else if(pkP L sz p).k=2 then some (.ok (.mk 2 0 (pkP L sz p).s []) (p+1))
  else if(pkP L sz p).k=3 then(if 0<zq (pkP L sz p).s∧zX (pkP L sz (p+1)) [40]=true then(match pH L sz f (zq (pkP L sz p).s).toNat 0 (p+2) []with
    |some (.ok l p')=>some (.ok (.mk 6 0 (pkP L sz p).s l) p')
    |some (.bad a p')=>some (.bad a p')
    |none=>none)
   else some (.ok (.mk 3 0 (pkP L sz p).s []) (p+1)))
  else some (.bad (pkP L sz p).p (p+1))
def pH(L:List Pc)(sz:Nat):Nat→Nat→Nat→Nat→List V→Option (Rs (List V))
 |0,_,_,_,_=>none
 |f+1,n,k,p,acc=>
  if k<n then(if 0<k∧zX (pkP L sz p) [44]=false then some (.bad (pkP L sz p).p p)
   else match pE L sz f 1 (if 0<k then p+1 else p)with
    |some (.ok e p')=>pH L sz f n (k+1) p' (acc++[e])
    |some (.bad a p')=>some (.bad a p')
    |none=>none)
  else if zX (pkP L sz p) [41] then some (.ok acc (p+1))else some (.bad (pkP L sz p).p p)
end
def z1W(f:Nat)(l:zB):Option (V×Int×Int):=
 if 200<l.length then some (V.nil,200,50)
 else match z0w (l.length+1) l 0 []with
  |none=>none
  |some (.bad a)=>some (V.nil,a,50)
  |some (.ok L)=>match pE L l.length f 1 0 with
   |some (.ok e p)=>if p<L.length then some (V.nil,(pkP L l.length p).p,50)else if z0q e then some (e,0,0)else some (V.nil,0,51)
   |some (.bad a _)=>some (V.nil,a,50)
   |none=>none
abbrev T3:=Int×Int×zB
def er(q:Pc):T3:=(q.k,q.n,q.s)
def sg(s:zB):T3:=(4,0,s)
def zek(e:V)(zi:Int)(t:List T3):List T3:=if e.k=4∧zu e.s<zi then sg [40]::(t++[sg [41]])else t
def zr0:List (List T3)→List T3
 |[]=>[]
 |x::r=>x++(r.map fun y=>sg [44]::y).flatten
def zc1:Nat→V→List T3
 |0,_=>[]
 |d+1,e=>
  if e.k=1 then [(1,e.n,[])]
  else if e.k=2 then [(2,0,e.s)]
  else if e.k=5 then sg [45]::zek (e.l.getD 0 V.nil) 5 (zc1 d (e.l.getD 0 V.nil))
  else if e.k=4 then zek (e.l.getD 0 V.nil) (zu e.s) (zc1 d (e.l.getD 0 V.nil))++sg e.s::zek (e.l.getD 1 V.nil) (zu e.s+1) (zc1 d (e.l.getD 1 V.nil))
  else if e.k=6 then(3,0,e.s)::sg [40]::(zr0 (e.l.map (zc1 d))++[sg [41]])
  else [(3,0,e.s)]
def LexP(t:zB)(ts:List T3)(post:zB):Prop:=
 ∀(f a:Nat) (acc:List Pc),t.length+post.length<f→∃f' L,post.length<f'∧L.map er=ts∧z0w f (t++post) a acc=z0w f' post (a+t.length) (acc++L)
theorem LexP.nil(post:zB):LexP [] [] post:=fun f a acc h=>⟨f,[],by simpa using h,rfl,by simp⟩
theorem LexP.app{t1 t2:zB}{ts1 ts2:List T3}{post:zB}(h1:LexP t1 ts1 (t2++post))(h2:LexP t2 ts2 post):LexP (t1++t2) (ts1++ts2) post:=by
 intro f a acc hf;obtain⟨f1,L1,a1,a2,a3⟩:=h1 f a acc (by grind);obtain⟨f2,L2,b1,b2,b3⟩:=h2 f1 (a+t1.length) (acc++L1) (by grind);refine⟨f2,L1++L2,b1,by rw[List.map_append,a2,b2],?_⟩
 grind
theorem LexP.one{t:zB}{q:T3}{post:zB}{b:UInt8}{r:zB}(ht:t=b::r)(hb:b≠32)(h:∀a,∃p,z0b (t++post) a=some (p,t.length)∧er p=q):LexP t [q] post:=by
 intro f a acc hf;obtain⟨f,rfl⟩:∃g,f=g+1:=⟨f-1,by omega⟩
 obtain⟨p,h1,h2⟩:=h a;refine⟨f,[p],by subst ht;simp at hf;omega,by simp[h2],?_⟩
 grind [z0w]
theorem zp1(d:Nat)(hd:d<10):(UInt8.ofNat (48+d)).toNat=48+d:=by rw[UInt8.toNat_ofNat'];omega
theorem zo7(post acc:zB)(k:Nat):quoG (34::post) acc k=if zh acc then some (acc,k+1)else none:=by
 rw[quoG.eq_def];rfl
theorem zo8(c:UInt8)(r acc:zB)(k:Nat):quoG (92::c::r) acc k=if c=34∨c=92 then quoG r (acc++[c]) (k+2)else none:=by
 grind [quoG]
theorem zpM{b:UInt8}(h1:b≠34)(h2:b≠92)(r acc:zB)(k:Nat):quoG (b::r) acc k=quoG r (acc++[b]) (k+1):=by
 rw[quoG.eq_def];simp only[if_neg h1,if_neg h2]
theorem z9H{s:zB}(h:0<zu s):s=[42]∨s=[47]∨s=[37]∨s=[43]∨s=[45]∨s=[38]∨s=[61]∨s=[60,62]∨s=[60]∨s=[60,61]∨s=[62]∨s=[62,61]:=by
 grind [zu]
theorem z9o{d:Nat}{e:V}(h:okE (d+1) e=true):z0y e=true∧∀x∈e.l,okE d x=true:=by
 rw[okE,Bool.and_eq_true]at h
 grind
theorem zbb{e:V}(h:z0y e=true)(hk:e.k=1):0≤e.n∧e.n≤1000000000000000∧e.s=[]∧e.l=[]:=by
 grind [z0y]
theorem zba{e:V}(h:z0y e=true)(hk:e.k≠1):e.n=0:=by
 grind [z0y]
theorem z7s{e:V}(h:z0y e=true)(hk:e.k=2):e.n=0∧zh e.s=true∧e.l=[]:=by
 grind [zba,z0y]
theorem zdo{e:V}(h:z0y e=true)(hk:e.k=3):e.n=0∧zb e.s=true∧e.l=[]:=by
 grind [zba,z0y]
theorem z69{e:V}(h:z0y e=true)(hk:e.k=4):e.n=0∧0<zu e.s∧∃a b,e.l=[a,b]:=by
 have h0:=zba h (by omega);unfold z0y at h;rw[if_neg (by simp[h0]),if_neg (by omega),if_neg (by omega),if_neg (by omega),if_pos hk]at h;simp at h;refine⟨h0,h.1,?_⟩
 match hl:e.l,h.2 with
 |[a,b],_=>simp
theorem z7t{e:V}(h:z0y e=true)(hk:e.k=5):e.n=0∧e.s=[45]∧∃a,e.l=[a]:=by
 have h0:=zba h (by omega);unfold z0y at h;rw[if_neg (by simp[h0]),if_neg (by omega),if_neg (by omega),if_neg (by omega),if_neg (by omega),if_pos hk]at h;simp at h;refine⟨h0,h.1,?_⟩
 match hl:e.l,h.2 with
 |[a],_=>simp
theorem z6a{e:V}(h:z0y e=true)(hk:e.k=6):e.n=0∧0<zq e.s∧(e.l.length:Int)=zq e.s:=by
 grind [zba,z0y]
theorem z3a{e:V}(h:z0y e=true):e.k=1∨e.k=2∨e.k=3∨e.k=4∨e.k=5∨e.k=6:=by
 grind [z0y]
end
section
open Go
section
variable{L:List Pc}{sz p:Nat}{t:T3}{ts r post:List T3}
end
def NP(post:List T3):Prop:=∀t r,post=t::r→t.1=4∧t.2.2≠[40]
def zqe(zi:Int)(post:List T3):Prop:=∀t r,post=t::r→t.1=4→zu t.2.2<zi
def PK(d:Nat):Prop:=∀e,okE d e=true→∀(m zi:Int),zi≤m→∀(L:List Pc) (sz p:Nat) (post:List T3),(L.drop p).map er=zek e m (zc1 d e)++post→NP post→(e.k=4→m≤zu e.s→zqe (zu e.s+1) post)→
 ∃F j,∀f,F≤f→pE L sz (f+j) zi p=pL L sz f zi e (p+(zek e m (zc1 d e)).length)
end
end Go.Mor
end

section
namespace Go.Sh
open Go Go.RowKit
def zql(P:Program)(o:Oper)(h:Nat):Option SOp:=
 match o.op with
 | .move x| .assign x=>some (.mov (.of x))
 | .pick c a b=>some (.pick (.of c) (.of a) (.of b))
 | .alloc e=>match P.info? e with
  |some i=>match i.zero with
   |some z=>if true then some (.new z.cells.toList)else none
   |none=>none
  |none=>none
 | .box _ x=>some (.box (.of x))
 | .build t parts=>match P.info? t,P.underlying t with
  |some i,some (.struct fs)=>match i.zero with
   |some z=>if true then((seqO (fun p:Nat×Operand=>match fs[p.1]? with
     |some f=>(P.info? f.type).map fun j=>(f.offset,j.size,Arg.of p.2)
     |none=>none) parts.toList).map fun ps=> .build z.cells.toList ps)else none
   |none=>none
  |some i,some (.array _ e)=>match i.zero,P.info? e with
   |some z,some j=>if true then some (.build z.cells.toList (parts.toList.map fun p=>(p.1*j.size,j.size,Arg.of p.2)))else none
   |_,_=>none
  |_,_=>none
 | .buildSlice t len parts=>match P.underlying t with
  |some (.slice e)=>match P.info? e with
   |some i=>match i.zero with
    |some z=>if true then some (if Nat.beq h 1 then .bslO e i.size (parts.toList.map fun p=>Arg.of p.2)else .bsl i.size (parts.toList.map fun p=>Arg.of p.2))else none
    |none=>none
   |none=>none
  |_=>none
 | .load t x=>match P.underlying t,P.info? t with
  |some d,some i=>some (if d.isRow then .ld true i.size (.of x)else .ld false 1 (.of x))
  |_,_=>none
 | .store t x y=>match P.info? t with
  |some i=>some (.st i.size (.of x) (.of y))
  |none=>none
 | .nilCheck x=>some (.nchk (.of x))
 | .binOp op t x y _=>match y,op,P.underlying t with
  | .const .nilFunc,.eql,some (.func _ _ _)=>some (.fnil false (.of x))
  | .const .nilFunc,.neq,some (.func _ _ _)=>some (.fnil true (.of x))
  |_,_,_=>some (.bin op t (.of x) (.of y))
 | .unOp op _ x=>some (.un op (.of x))
 | .convert src dst x=>match P.underlying src,P.underlying dst with
  |some (.int _),some (.int k)=>some (.cvi k (.of x))
  |some .string,some .string=>some (.cvs (.of x))
  |some (.slice e),some .string=>match P.underlying e with
   |some (.int .u8)=>some (.b2s (.of x))
   |_=>none
  |_,_=>none
 | .slice t x lo hi none=>match P.underlying t with
  |some .string=>some (.ssub (.of x) (lo.map .of) (hi.map .of))
  |some (.slice e)=>match P.info? e with
   |some i=>some (.sub i.size (.of x) (lo.map .of) (hi.map .of))
   |none=>none
  |_=>none
 | .fieldAddr t x f=>match P.underlying t with
  |some (.struct fs)=>match fs[f]? with
   |some fd=>match P.info? fd.type with
    |some i=>if i.size=0 then none else some (.fldA fd.offset (.of x))
    |none=>none
   |none=>none
  |_=>none
 | .field t x f=>match P.underlying t with
  |some (.struct fs)=>match fs[f]? with
   |some fd=>match P.info? fd.type,P.underlying fd.type with
    |some i,some d=>some (.fld d.isRow fd.offset i.size (.of x))
    |_,_=>none
   |none=>none
  |_=>none
 | .indexAddr t x i=>match P.underlying t with
  |some (.slice e)=>match P.info? e with
   |some j=>some (.idxA j.size (.of x) (.of i))
   |none=>none
  |some (.array n e)=>match i,P.info? e with
   | .const (.int _ k),some j=>if 0≤k∧k<n then some (.fldA (k.toNat*j.size) (.of x))else none
   |_,_=>none
  |_=>none
 | .index t x i=>match P.underlying t with
  |some .string=>some (.sidx (.of x) (.of i))
  |_=>none
 | .lookup t x i false=>match P.underlying t with
  |some (.map k e)=>match P.info? e with
   |some j=>match j.zero with
    |some z=>if true then(match P.underlying k with
      |some .string=>some (.lkp true z (.of x) (.of i))
      |some (.int .i64)=>some (.lkp false z (.of x) (.of i))
      |_=>none)else none
    |none=>none
   |none=>none
  |_=>none
 | .makeInterface t x=>match P.underlying t with
  |some (.interface _)=>none
  |some _=>some (.mkI t (.of x))
  |none=>none
 | .panic x=>some (.pan (.of x))
 | .extract x i=>some (.ext (.of x) i)
 | .makeFunc f a b=>some (.mkf f (a.toList.map .of) (b.toList.map .of))
 | .range t x=>match P.underlying t with
  |some .string=>some (.rng (.of x))
  |_=>none
 | .next x true=>some (.nxt (.of x))
 | .makeSlice t l c=>match P.underlying t,l,c with
  |some (.slice e),.tmp a,.tmp b=>if Nat.beq a b then match P.info? e with
   |some i=>match i.zero with
    |some z=>if true then some (.mks i.bytes z.cells.toList (.tmp a))else none
    |none=>none
   |none=>none else none
  |_,_,_=>none
 | .call { callee:=.builtin .len,args,argTypes }=>match argTypes.toList,args.toList with
  |[t],[x]=>match P.underlying t with
   |some (.slice _)=>some (.len (.of x))
   |some .string=>some (.slen (.of x))
   |_=>none
  |_,_=>none
 | .call { callee:=.builtin .min,args,argTypes }=>match args.toList,argTypes.toList with
  |[x,y],[t,_]=>match P.underlying t with
   |some (.int .i64)=>some (.imm false (.of x) (.of y))
   |_=>none
  |_,_=>none
 | .call { callee:=.builtin .max,args,argTypes }=>match args.toList,argTypes.toList with
  |[x,y],[t,_]=>match P.underlying t with
   |some (.int .i64)=>some (.imm true (.of x) (.of y))
   |_=>none
  |_,_=>none
 | .call { callee:=.builtin .append,args,argTypes }=>match args.toList,argTypes.toList with
  |[x,y],[t,tx]=>match P.underlying t with
   |some (.slice e)=>match P.info? e with
    |some i=>match i.zero with
     |some z=>if true then
       match P.underlying tx with
       |some (.slice _)=>some (if Nat.beq h 2 then .appB e i.size i.bytes (.of x) (.of y)else if Nat.beq h 1 then .appN e i.size i.bytes (.of x) (.of y)else .app e i.size i.bytes (.of x) (.of y))
       |some .string=>if i.size=1 then some (if Nat.beq h 1 then .appNS e i.bytes (.of x) (.of y)else .appS e i.bytes (.of x) (.of y))else none
       |_=>none
      else none
     |none=>none
    |none=>none
   |_=>none
  |_,_=>none
 | .call { callee:=.value (.func f),args,argTypes:=_ }=>match P.funcs[f]? with
  |some fn=>if true then some (.call f h (args.toList.map .of))else none
  |none=>none
 | .call { callee:=.value (.tmp t),args,argTypes:=_ }=>some (.callv (.tmp t) h (args.toList.map .of))
 |_=>none
def zlN{α:Type}:List α→Nat→Option α
 |[],_=>none
 |x::_,0=>some x
 |_::l,n+1=>zlN l n
def zlB(ops:List Oper):Option (Nat×Bool)→Option (Nat×Bool)
 |none=>none
 |some (j,want)=>match zlN ops j with
  |some o=>match o.dst with
   |some d=>some (d,want)
   |none=>none
  |none=>none
def z4Z(P:Program)(H:Option Nat→Nat)(fps:Nat→Option Nat)(ops:List Oper):Nat→List Oper→List SOper
 |_,[]=>[]
 |j,o::l=>match zql P o (H o.dst)with
  |some op=>⟨o.dst,zlB ops o.guard,fps j,op⟩::z4Z P H fps ops (j+1) l
  |none=>z4Z P H fps ops (j+1) l
def z9e:List SOper→List Nat
 |[]=>[]
 |x::l=>x.news++z9e l
def ze9:List Oper→Bool
 |[]=>false
 |o::l=>match o.op with
  | .call { callee:=.builtin .append, .. }=>true
  |_=>ze9 l
def zdl(P:Program)(H:Nat→Option Nat→Nat)(ops:List Oper)(app:Bool):List (Nat→Option Nat)→List (List Nat×List SOper)
 |[]=>[]
 |F::r=>match app with
  |true=>(z9e (z4Z P (H 0) F ops 0 ops),z4Z P (H 0) F ops 0 ops)::(z9e (z4Z P (H 1) F ops 0 ops),z4Z P (H 1) F ops 0 ops)::zdl P H ops app r
  |false=>(z9e (z4Z P (H 0) F ops 0 ops),z4Z P (H 0) F ops 0 ops)::zdl P H ops app r
def z4w(P:Program)(H:Nat→Option Nat→Nat)(Fp:Nat→List (Nat→Option Nat))(K:Nat→List Nat):Code→SCode
 | .skip=> .skip
 | .region id ops _=>match has (K id) 9999 with
  |true=> .regq (zdl P H ops.toList (ze9 ops.toList) (Fp id)) (K id)
  |false=> .reg (zdl P H ops.toList (ze9 ops.toList) (Fp id)) (K id)
 | .seq a b=> .seq (z4w P H Fp K a) (z4w P H Fp K b)
 | .cond c a b=> .cond (Arg.of c) (z4w P H Fp K a) (z4w P H Fp K b)
 | .block id a=> .block id (z4w P H Fp K a)
 | .loop a=> .loop (z4w P H Fp K a)
 | .exit id=> .exit id
 | .ret=> .ret
 |_=> .skip
def zqR(P:Program)(f:Nat)(H:Nat→Option Nat→Nat)(Fp:Nat→List (Nat→Option Nat))(K:Nat→List Nat):SCode:=match zlN P.funcs.toList f with
 |some fn=>match fn.body with
  |some c=>z4w P H Fp K c
  |none=> .skip
 |none=> .skip
def zlq:Nat→Nat→List Nat
 |_,0=>[]
 |a,n+1=>a::zlq (a+1) n
def exO(a:Nat):List Nat:=match Nat.ble 2000000 a with
 |true=>[a-2000000]
 |false=>match Nat.ble 1000 a with
  |true=>match Nat.ble 1000000 a with
   |true=>zlq 0 (a%1000+1)
   |false=>zlq (a / 1000) (a%1000+1-a / 1000)
  |false=>[a]
def exR:List Nat→List Nat
 |a::l=>exO a++exR l
 |_=>[]
def exK:Nat→List (List Nat)→List (Nat×List Nat)
 |_,[]=>[]
 |n,x::l=>(n,exR x)::exK (n+1) l
structure GA where
 f:Nat
 N:Nat
 h:List (Nat×Nat)
 p:List (Nat×List (List (Nat×Nat)))
 k:List (List Nat)
 r:List SRes
 e:Bool
abbrev gD(P:Program)(a:GA):SFunc:=⟨a.N,zqR P a.f (z62 a.h) (fpT a.p) (z5l (exK 0 a.k)),a.r,a.e⟩
abbrev gT(P:Program)(a:GA):Prop:=z0e P a.f (z62 a.h) (fpT a.p) (z5l (exK 0 a.k)) a.e=some (gD P a)
theorem iOf(n:Nat):Int.ofNat (no_index (OfNat.ofNat n))=OfNat.ofNat n:=rfl
theorem u8f(n:Nat)(h:n<2 ^ 8):UInt8.ofBitVec (BitVec.ofFin ⟨n,h⟩)=UInt8.ofNat n:=by
 apply UInt8.toNat_inj.1;show n=(UInt8.ofNat n).toNat
 grind [UInt8.toNat_ofNat',Nat.mod_eq_of_lt]
theorem u8h(n:Nat):UInt8.ofBitVec (BitVec.ofNat 8 n)=UInt8.ofNat n:=rfl
theorem u8g(n:Nat):UInt8.ofNat (no_index (OfNat.ofNat n))=OfNat.ofNat n:=rfl
theorem arO{α:Type}(l:List α):Array.mk l=l.toArray:=rfl
end Go.Sh
end
