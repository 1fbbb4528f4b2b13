/- Merged texts: Pcm Dt By. No statement of the program is proved here. -/
import Derived.Test.YtbkgnekfigknhaaGreatDoorR11
set_option linter.unusedSimpArgs false
set_option linter.unusedVariables false
set_option maxRecDepth 100000
set_option maxHeartbeats 8000000
section
namespace Go.Proofs.YtbkgnekfigknhaaGreatDoor
open Go Go.Mor
def I64(c:Int):Prop:= -9223372036854775808≤c∧c≤9223372036854775807
def z1i(a b:Int):Int:=if a<b then -1 else if b<a then 1 else 0
def zZ(c d:Int):Int:=if c=0 then d else c
def z2t(a b:zB):Int:=if Op.bytesLess a b then -1 else if a=b then 0 else 1
mutual
def cmpV:V→V→Int
 | .mk k n s l,y=>zZ (z1i k y.k) (zZ (z1i n y.n) (zZ (z2t s y.s) (z0P l y.l)))
def z0P:List V→List V→Int
 |[],[]=>0
 |[],_::_=> -1
 |_::_,[]=>1
 |x::l,y::l'=>zZ (cmpV x y) (z0P l l')
end
theorem z4O(x y:V):cmpV x y=zZ (z1i x.k y.k) (zZ (z1i x.n y.n) (zZ (z2t x.s y.s) (z0P x.l y.l))):=by
 cases x;simp only[cmpV,V.k,V.n,V.s,V.l]
theorem zd3{l l':List V}{i:Nat}{x y:V}(hx:l[i]?=some x)(hy:l'[i]?=some y):z0P (l.drop i) (l'.drop i)=zZ (cmpV x y) (z0P (l.drop (i+1)) (l'.drop (i+1))):=by
 grind [List.getElem?_eq_some_iff,List.drop_eq_getElem_cons,z0P]
theorem zay{l l':List V}{i:Nat}(h:i=min l.length l'.length):z0P (l.drop i) (l'.drop i)=z1i l.length l'.length:=by
 grind [z1i,Nat.lt_trichotomy,List.drop_eq_nil_of_le,List.drop_eq_getElem_cons,z0P]
section
open Go.RowKit Go.Sh
theorem ztk:str []=(⟨#[]⟩:ByteArray):=rfl
def tyT(t:Ty):TV:=.agg [I t.k,I t.o]
def nv(x:V):TV:=.agg [I x.k,I x.n,S (str x.s),.pv (.v (.slice none 0 0))]
def V.row:V→List PV
 | .mk k n s l=>[.v (.int .i64 k),.v (.int .i64 n),.v (.string (str s)),.sl 4 (l.attach.map fun x=>V.row x.1)]
termination_by x=>SizeOf.sizeOf x
decreasing_by exact V.size_lt x.2 k n s
def V.rows(l:List V):List (List PV):=l.map V.row
theorem V.row_mk(k n:Int)(s:zB)(l:List V):V.row (.mk k n s l)=[.v (.int .i64 k),.v (.int .i64 n),.v (.string (str s)),.sl 4 (V.rows l)]:=by
 rw[V.row];simp[V.rows]
theorem V.rows_nil:V.rows []=[]:=rfl
theorem z0j(l:List V):V.rows l=l.map V.row:=rfl
def tv(x:V):TV:=.agg [I x.k,I x.n,S (str x.s),.pv (.sl 4 (V.rows x.l))]
theorem wk4{a b c x y:TV}(h:Wk x y):Wk (.agg [a,b,c,x]) (.agg [a,b,c,y]):=
 z9m rfl (fun j p q hp hq=>by
  match j with
  |0=>simp at hp hq;subst hp;subst hq;exact .refl _
  |1=>simp at hp hq;subst hp;subst hq;exact .refl _
  |2=>simp at hp hq;subst hp;subst hq;exact .refl _
  |3=>simp at hp hq;subst hp;subst hq;exact h
  |j+4=>simp at hp)
theorem z1q{x:V}(h:x.l=[]):Wk (nv x) (tv x):=by
 unfold nv tv;rw[h];exact wk4 (z3z 4)
structure R1 where
 k:Int
 n:Int
 s:zB
structure RawV where
 k:Int
 n:Int
 s:zB
 l:List R1
def R1.ok(x:R1):Prop:=I64 x.k∧I64 x.n∧x.s.length≤9223372036854775807
def RawV.ok(x:RawV):Prop:=I64 x.k∧I64 x.n∧x.s.length≤9223372036854775807∧(∀y∈x.l,y.ok)∧x.l.length≤9223372036854775807
def R1.row(x:R1):List PV:=[.v (.int .i64 x.k),.v (.int .i64 x.n),.v (.string (str x.s))]
def RawV.tv(x:RawV):TV:=.agg [I x.k,I x.n,S (str x.s),.pv (.sl 3 (x.l.map R1.row))]
theorem zjG{x:V}(h:x.l=[]):V.row x=[.v (.int .i64 x.k),.v (.int .i64 x.n),.v (.string (str x.s)),.sl 4 []]:=by
 cases x with
 |mk k n s l=>simp only[V.l]at h;subst h;simp[V.row_mk,V.rows,V.k,V.n,V.s]
theorem Vk(k n:Int)(s:zB)(l:List V):(V.mk k n s l).k=k:=rfl
theorem Vn(k n:Int)(s:zB)(l:List V):(V.mk k n s l).n=n:=rfl
theorem Vs(k n:Int)(s:zB)(l:List V):(V.mk k n s l).s=s:=rfl
theorem Vl(k n:Int)(s:zB)(l:List V):(V.mk k n s l).l=l:=rfl
theorem zhX(l:List V)(k:Nat):(V.rows l)[k]?=(l[k]?).map V.row:=by rw[z0j,List.getElem?_map]
theorem z1m(l:List V):(V.rows l).length=l.length:=by rw[z0j,List.length_map]
theorem z1b(y:V):V.row y=[.v (.int .i64 y.k),.v (.int .i64 y.n),.v (.string (str y.s)),.sl 4 (V.rows y.l)]:=by cases y;exact V.row_mk _ _ _ _
inductive VSmall:V→Prop where
 |mk {k n:Int} {s:zB} {l:List V} (h:l.length≤maxLen) (hs:∀y∈l,VSmall y):VSmall (.mk k n s l)
theorem VSmall.len{x:V}(h:VSmall x):x.l.length≤maxLen:=by cases h;assumption
theorem VSmall.sub{x y:V}(h:VSmall x)(hy:y∈x.l):VSmall y:=by cases h with|mk h hs=>exact hs y hy
def z1w(x:V):Prop:=x.s.length≤9223372036854775807
theorem zp7{w:World}{E:Env}{r:Sh.Rows}{x:Int}{v:Value}(h:RelT w E r (I x) v):v=.int .i64 x:=val_rel h rfl
theorem zp8{w:World}{E:Env}{r:Sh.Rows}{x:ByteArray}{v:Value}(h:RelT w E r (S x) v):v=.string x:=val_rel h rfl
def VOk(x:V):Prop:=z1w x∧∀y∈x.l,z1w y
def pvC(xs:List PV):List TV:=xs.map TV.pv
theorem z7m(ids:List Nat)(xs:List PV):List.map (fgt3 ids) (pvC xs)=pvC xs:=by
 unfold pvC;rw[List.map_map];exact List.map_congr_left fun x _=>by cases ids<;>rfl
theorem z9P(xs:List PV):List.flatMap TV.ids1 (pvC xs)=[]:=by
 unfold pvC;induction xs with
 |nil=>rfl
 |cons x xs ih=>rw[List.map_cons,List.flatMap_cons,ih];rfl
theorem z9Q(ρ:Nat→Option Nat)(xs:List PV):seqO (TV.ren1 ρ) (pvC xs)=some (pvC xs):=by
 unfold pvC;induction xs with
 |nil=>rfl
 |cons x xs ih=>simp only[List.map_cons,seqO,ih];rfl
theorem zhR(xs:List PV):(pvC xs).length=xs.length:=by simp[pvC]
theorem zqd(xs:List PV)(i:Nat):(pvC xs)[i]?=(xs[i]?).map TV.pv:=by simp[pvC]
theorem z9R{xs:List PV}{i:Nat}(h:i<xs.length)(y:PV):List.take i (pvC xs)++[TV.pv y]++List.drop (i+1) (pvC xs)=pvC (xs.set i y):=by
 unfold pvC;rw[List.set_eq_take_append_cons_drop,if_pos h,List.map_append,List.map_cons,List.map_take,List.map_drop,List.append_assoc];rfl
theorem vV:type_of%(wa3 (wa8 @z7m @z9P @z9Q @zhR @I.eq_1 @S.eq_1 @tv.eq_1 @nv.eq_1) (wa8 @tyT.eq_1 @RawV.tv.eq_1 @R1.row.eq_1 @zhX @z1m @z1b @Vk @Vn) (wa2 @Vs @Vl)):=wa3 (wa8 @z7m @z9P @z9Q @zhR @I.eq_1 @S.eq_1 @tv.eq_1 @nv.eq_1) (wa8 @tyT.eq_1 @RawV.tv.eq_1 @R1.row.eq_1 @zhX @z1m @z1b @Vk @Vn) (wa2 @Vs @Vl)
def byR(l:zB):List (List PV):=l.map fun u=>[.v (.int .u8 u.toNat)]
theorem byP(l:zB):z1t (str l)=byR l:=by simp[z1t,byR,str]
theorem z4p(a b:zB):byR a++byR b=byR (a++b):=by simp[byR]
theorem z3A(a:zB):(byR a).length=a.length:=by simp[byR]
theorem z43:∀(a:zB),seqO Sh.byteOf (byR a)=some a
 |[]=>rfl
 |u::a=>by
  have ih:=z43 a;unfold byR at ih ⊢;simp only[List.map_cons,seqO,ih,Sh.byteOf];simp
theorem z4I(l:zB):(⟨l.toArray⟩:ByteArray)=str l:=rfl
end
end Go.Proofs.YtbkgnekfigknhaaGreatDoor
end
