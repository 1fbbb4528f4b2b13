/- Merged texts: PWire PWire2 PWire3 PClass PCls Px1 Px2 Px3. No statement of the program is proved here. -/
import Derived.Test.YtpmlapgbmgbilaaGreatDoorR12
import Derived.Lib.ItoaNum
import Derived.Lib.Join
set_option linter.unusedSimpArgs false
set_option linter.unusedVariables false
set_option maxRecDepth 100000
set_option maxHeartbeats 8000000
section
namespace Go.Mor
def mag(n:Int):Nat:=if n<0 then(-1-n).toNat else n.toNat
def sgn(n:Int):Nat:=if n<0 then 1 else 0
def z1j:Nat→Nat→zB
 |0,_=>[]
 |f+1,m=>if m=0 then [] else UInt8.ofNat (m%128)::z1j f (m / 128)
def z4D(n:Int):zB:=UInt8.ofNat (mag n%64*2+sgn n)::z1j 9 (mag n / 64)
def z8r(l:zB):zB:=l.dropLast++(l.getLast?.map (·+128)).toList
def z4M(l:zB):zB:=l.foldl (fun acc g=>z8r acc++[g]) []
def num(n:Int):zB:=z4M (z4D n)
theorem z8W(l:zB)(g:UInt8):z4M (l++[g])=z8r (z4M l)++[g]:=by simp[z4M]
theorem zgI(l:zB):(z8r l).length=l.length:=by
 rcases List.eq_nil_or_concat l with rfl|⟨Q,b,rfl⟩
 ·rfl
 ·simp[z8r]
theorem zab(l:zB):∀acc:zB,(l.foldl (fun acc g=>z8r acc++[g]) acc).length=acc.length+l.length:=by
 induction l<;>grind [zgI]
theorem z5g(l:zB):(z4M l).length=l.length:=by rw[z4M,zab];simp
theorem z8a(f:Nat):z1j f 0=[]:=by cases f<;>simp[z1j]
theorem zgk(f:Nat):∀m,(z1j f m).length≤f:=by
 induction f with
 |zero=>grind [z1j]
 |succ f ih=>intro m;simp only[z1j];split;simp;simp;exact ih _
theorem ze6(n:Int):(z4D n).length≤10:=by
 grind [zgk,mag,z4D]
theorem z0n(n:Int):(num n).length≤10:=by rw[num,z5g];exact ze6 n
theorem zqf(n:Int):0<(num n).length:=by rw[num,z5g];simp[z4D]
abbrev Ix:Type:=Fin 1125899906842624
def z0P:Nat→Nat×Nat→zB→Except Bool (Nat×Nat×Nat)
 |_,_,[]=> .error false
 |k,st,b::r=>
  if k≠0∧(b.toNat=0∨k=9∧1<b.toNat)then .error true else
  let g:=b.toNat%128
  let st':=if k=0 then(g / 2,g%2)else(st.1+g*2 ^ (7*k-1),st.2)
  if b.toNat<128 then .ok (st'.1,st'.2,k+1)else z0P (k+1) st' r
def z2F(st:Nat×Nat)(x:Ix×UInt8):Nat×Nat:=
 if x.1.val=0 then(x.2.toNat%128 / 2,x.2.toNat%128%2)else(st.1+x.2.toNat%128*2 ^ (7*x.1.val-1),st.2)
def stM(pre:List (Ix×UInt8)):Nat×Nat:=pre.foldl z2F (0,0)
theorem z88(pre:List (Ix×UInt8))(x:Ix×UInt8):stM (pre++[x])=z2F (stM pre) x:=by simp[stM]
def z2D(s:zB)(a:Nat):List (Ix×UInt8):=(s.drop a).zipIdx.map fun p=>(Fin.ofNat _ p.2,p.1)
theorem z4N(s:zB)(a:Nat):(z2D s a).length=s.length-a:=by simp[z2D]
theorem zdH(s:zB)(a k:Nat)(h:a+k<s.length):(z2D s a)[k]?=some (Fin.ofNat _ k,s[a+k]):=by
 simp[z2D,List.getElem?_drop,gE h]
theorem zbW(s:zB)(a k:Nat)(h:a+k<s.length):(z2D s a).take (k+1)=(z2D s a).take k++[(Fin.ofNat _ k,s[a+k])]:=by
 grind [List.take_add_one,zdH]
def rd(s:zB)(a:Int):Except Bool (Int×Nat):=
 if 0≤a∧a<s.length then
  match z0P 0 (0,0) (s.drop a.toNat)with
  | .error e=> .error e
  | .ok (m,sg,z)=> .ok (if sg=1 then -1-(m:Int)else m,z)
 else .error false
def Begs(s:zB)(a:Nat)(pre:List (Ix×UInt8)):Prop:=pre<+:z2D s a
theorem Begs.last{s:zB}{a:Nat}{pre:List (Ix×UInt8)}{x:Ix×UInt8}(h:Begs s a (pre++[x]))(hs:s.length<1125899906842624):
  Begs s a pre∧x.1.val=pre.length∧∃hl:a+pre.length<s.length,x.2=s[a+pre.length]:=by
 have hg:Begs s a pre:=(List.prefix_append pre [x]).trans h;have hlen:=h.length_le;rw[z4N]at hlen;have h2:=List.prefix_iff_getElem?.1 h pre.length (by simp)
 grind [zdH]
structure Mid(s:zB)(a:Nat)(pre:List (Ix×UInt8))(m sg:Int):Prop where
 m:m=(stM pre).1
 sg:sg=(stM pre).2
 go:z0P 0 (0,0) (s.drop a)=z0P pre.length (stM pre) (s.drop (a+pre.length))
 lt:(stM pre).1<2 ^ (7*pre.length-1)
 le:pre.length≤9
theorem zn2:z8r []=[]:=rfl
theorem zr2(b:UInt8):((b+128).toNat:Int)=((b.toNat:Int)+128)%256:=by
 simp
theorem zdd(Q:zB)(b:UInt8):z8r (Q++[b])=Q++[b+128]:=by
 simp[z8r]
theorem zqG{α:Type}(l:List α)(h:l≠[]):∃Q b,l=Q++[b]:=⟨l.dropLast,l.getLast h,(List.dropLast_concat_getLast h).symm⟩
theorem zl8(x:Int)(h:x<0):((UInt8.ofNat (mag x%64*2+sgn x)).toNat:Int)=(-1-x)%64*2+1:=by
 simp only[mag,sgn,if_pos h,UInt8.toNat_ofNat'];omega
theorem zl9(x:Int)(h:¬x<0):((UInt8.ofNat (mag x%64*2+sgn x)).toNat:Int)=x%64*2:=by
 simp only[mag,sgn,if_neg h,UInt8.toNat_ofNat'];omega
theorem zlF(m:Nat):((UInt8.ofNat (m%128)).toNat:Int)=(m:Int)%128:=by
 simp;omega
theorem zlz(x:Int):(mag x:Int)=if x<0 then -1-x else x:=by simp only[mag];split<;>omega
theorem zrI(x:Int)(h0: -9223372036854775808≤x)(h1:x≤9223372036854775807):mag x<9223372036854775808:=by
 grind [zlz]
section
open Go
theorem z24{s:zB}{i:Nat}(h:i<s.length):s.drop i=s[i]::s.drop (i+1):=by simp
theorem Mid.at{s:zB}{a:Nat}{pre:List (Ix×UInt8)}{x:Ix×UInt8}{m sg:Int}(hs:s.length<1125899906842624)(hM:Begs s a pre→Mid s a pre m sg)(hg:Begs s a (pre++[x])):
  Mid s a pre m sg∧x.1.val=pre.length∧z0P 0 (0,0) (s.drop a)=z0P pre.length (stM pre) (x.2::s.drop (a+(pre++[x]).length)):=by
 obtain⟨hg',hx,hl,hb⟩:=hg.last hs;have hm:=hM hg';refine⟨hm,hx,?_⟩;rw[hm.go,z24 hl,hb]
 grind
theorem Mid.err{s:zB}{a:Nat}{pre:List (Ix×UInt8)}{x:Ix×UInt8}{m sg:Int}(hs:s.length<1125899906842624)(hM:Begs s a pre→Mid s a pre m sg)(hk:¬x.1.val=0)(hbad:x.2.toNat=0∨x.1.val=9∧1<x.2.toNat)
  (hg:Begs s a (pre++[x])):z0P 0 (0,0) (s.drop a)=.error true:=by
 grind [Mid.at,z0P]
theorem Mid.ok{s:zB}{a:Nat}{pre:List (Ix×UInt8)}{x:Ix×UInt8}{m sg:Int}(hs:s.length<1125899906842624)(hM:Begs s a pre→Mid s a pre m sg)(hbad:¬(x.1.val≠0∧(x.2.toNat=0∨x.1.val=9∧1<x.2.toNat)))
  (hlo:x.2.toNat<128) (hg:Begs s a (pre++[x])):z0P 0 (0,0) (s.drop a)=.ok ((z2F (stM pre) x).1,(z2F (stM pre) x).2,x.1.val+1):=by
 obtain⟨hm,hx,hr⟩:=Mid.at hs hM hg;rw[hr,z0P,if_neg (by omega),←hx];simp only[hlo,if_true,z2F]
theorem zqH{st:Nat×Nat}{x:Ix×UInt8}(h:st.1<2 ^ (7*x.1.val-1)):(z2F st x).1<2 ^ (7*(x.1.val+1) - 1):=by
 unfold z2F;by_cases h0:x.1.val=0
 ·grind
 ·rw[if_neg h0];have e:7*(x.1.val+1) - 1=7*x.1.val-1+7:=by omega
  rw[e,Nat.pow_add];have h2:x.2.toNat%128*2 ^ (7*x.1.val-1)≤127*2 ^ (7*x.1.val-1):=Nat.mul_le_mul_right _ (by omega);omega
theorem Mid.cont{s:zB}{a:Nat}{pre:List (Ix×UInt8)}{x:Ix×UInt8}{m sg:Int}(hs:s.length<1125899906842624)(hM:Begs s a pre→Mid s a pre m sg)(hbad:¬(x.1.val≠0∧(x.2.toNat=0∨x.1.val=9∧1<x.2.toNat)))
  (hlo:128≤x.2.toNat) (hg:Begs s a (pre++[x])):Mid s a (pre++[x]) ((z2F (stM pre) x).1:Nat) ((z2F (stM pre) x).2:Nat):=by
 obtain⟨hm,hx,hr⟩:=Mid.at hs hM hg;have hlen:(pre++[x]).length=x.1.val+1:=by simp[hx]
 refine⟨by rw[z88],by rw[z88],?_,?_,?_⟩
 ·rw[hr,z0P,if_neg (by omega),z88,←hx];have h1:¬x.2.toNat<128:=by omega
  simp only[h1,if_false,hlen];rfl
 ·rw[z88,hlen];exact zqH (by rw[hx];exact hm.lt)
 ·have:=hm.le;omega
theorem zrT(A g i:Nat)(h:A<2 ^ i):A|||g*2 ^ i=A+g*2 ^ i:=by
 grind [Nat.two_pow_add_eq_or_of_lt,Nat.mul_comm,Nat.add_comm]
theorem zqi{s:zB}{a:Nat}{pre:List (Ix×UInt8)}{x:Ix×UInt8}{m sg G:Int}(hs:s.length<1125899906842624)(hM:Begs s a pre→Mid s a pre m sg)(hk:¬x.1.val=0)(hbad:¬(x.2.toNat=0∨x.1.val=9∧1<x.2.toNat))
  (hG:G=IntKind.u64.wrap ((x.2.toNat:Int)%128*2 ^ min (7*x.1.val-1) 64)) (hg:Begs s a (pre++[x])):
  bits .or .u64 m G=((z2F (stM pre) x).1:Nat)∧sg=((z2F (stM pre) x).2:Nat):=by
 obtain⟨hm,hx,_⟩:=Mid.at hs hM hg;have hle:=hm.le;have hlt:=hm.lt;rw[←hx]at hle hlt;have hmin:min (7*x.1.val-1) 64=7*x.1.val-1:=by omega
 have hpow:2 ^ (7*x.1.val-1)≤2 ^ 62:=Nat.pow_le_pow_right (by omega) (by omega);have hval:x.2.toNat%128*2 ^ (7*x.1.val-1)<18446744073709551616:=by
  by_cases h9:x.1.val=9
  ·grind
  ·have h8:2 ^ (7*x.1.val-1)≤2 ^ 55:=Nat.pow_le_pow_right (by omega) (by omega);have:x.2.toNat%128≤127:=by omega
   have:=Nat.mul_le_mul this h8;omega
 have hG':G=((x.2.toNat%128*2 ^ (7*x.1.val-1):Nat):Int):=by
  rw[hG,hmin];have e:(x.2.toNat:Int)%128*2 ^ (7*x.1.val-1)=((x.2.toNat%128*2 ^ (7*x.1.val-1):Nat):Int):=by simp
  rw[e,IntKind.wrap_u64];omega
 rw[hG',hm.m,u64_or_nat _ _ (by omega) hval,zrT _ _ _ hlt,hm.sg];simp only[z2F,if_neg hk,true_and]
theorem z81:∀(l:zB) (k:Nat) (st:Nat×Nat) {m sg z:Nat},k≤9→st.1<2 ^ (7*k-1)→(k=0∨st.2≤1)→z0P k st l=.ok (m,sg,z)→
  m<9223372036854775808∧sg≤1∧k<z∧z≤10∧z≤k+l.length
 |[],k,st,m,sg,z,_,_,_,h=>by simp[z0P]at h
 |b::r,k,st,m,sg,z,hk,hlt,hsg,h=>by
  rw[z0P]at h;by_cases hbad:k≠0∧(b.toNat=0∨k=9∧1<b.toNat)
  ·grind
  rw[if_neg hbad]at h;have hst:(if k=0 then(b.toNat%128 / 2,b.toNat%128%2)else(st.1+b.toNat%128*2 ^ (7*k-1),st.2)).1<2 ^ (7*(k+1) - 1)∧
    (if k=0 then(b.toNat%128 / 2,b.toNat%128%2)else(st.1+b.toNat%128*2 ^ (7*k-1),st.2)).2≤1∧
    (k=9→(if k=0 then(b.toNat%128 / 2,b.toNat%128%2)else(st.1+b.toNat%128*2 ^ (7*k-1),st.2)).1<9223372036854775808):=by
   by_cases h0:k=0
   ·grind
   ·simp;have e:7*(k+1) - 1=7*k-1+7:=by omega
    have h2:b.toNat%128*2 ^ (7*k-1)≤127*2 ^ (7*k-1):=Nat.mul_le_mul_right _ (by omega)
    grind
  obtain⟨h1,h2,h3⟩:=hst
  dsimp only at h
  generalize(if k=0 then(b.toNat%128 / 2,b.toNat%128%2)else(st.1+b.toNat%128*2 ^ (7*k-1),st.2))=q at*;by_cases hlo:b.toNat<128
  ·rw[if_pos hlo]at h;obtain⟨rfl,rfl,rfl⟩:=h;refine⟨?_,h2,by omega,by omega,by simp⟩;by_cases h9:k=9
   ·omega
   ·have:2 ^ (7*(k+1) - 1)≤2 ^ 62:=Nat.pow_le_pow_right (by omega) (by omega);omega
  ·rw[if_neg hlo]at h;have:=z81 r (k+1) q (by omega) h1 (.inr h2) h
   grind
end
def z06(s:zB)(a:Int):Option (Int×Int):=
 match rd s a with
 | .ok (n,z)=>some (n,a+z)
 | .error _=>none
def rdW(s:zB)(a:Int):Except Bool (zB×Int):=
 match rd s a with
 | .error e=> .error e
 | .ok (n,z)=>if n<0∨10000<n then .error true else if s.length-(a+z)<n then .error false else .ok ((s.drop (a+z).toNat).take n.toNat,a+z+n)
def zU(s:zB)(a:Int):Option (zB×Int):=
 match rdW s a with
 | .ok (t,b)=>some (t,b)
 | .error _=>none
def zlQ(r:Option (Int×Int)):Value:=match r with|some (n,b)=> .tuple #[.int .i64 n,.int .i64 b,.int .i64 0]|none=> .tuple #[.int .i64 0,.int .i64 0,.int .i64 10]
def zi2(r:Option (zB×Int)):Value:=match r with|some (t,b)=> .tuple #[.string (str t),.int .i64 b,.int .i64 0]|none=> .tuple #[.string (str []),.int .i64 0,.int .i64 10]
def text(s:zB):zB:=num s.length++s
def z7m(s:zB):Value:=if s.length≤10000 then .tuple #[.string (str (text s)),.int .i64 0] else .tuple #[.string (str []),.int .i64 10]
theorem zb3{s:zB}{a:Int}{n:Int}{z:Nat}(h:rd s a=.ok (n,z)):0≤a∧a+z≤s.length∧ -9223372036854775808≤n∧n≤9223372036854775807∧0<z∧z≤10:=by
 unfold rd at h;split at h
 ·rename_i hin;split at h
  ·cases h
  ·rename_i m sg z' he;have:=z81 _ 0 (0,0) (by omega) (by decide) (.inl rfl) he
   grind
 ·cases h
theorem z8j{s:zB}{a n b:Int}(h:z06 s a=some (n,b)):0≤a∧a<b∧b≤s.length∧ -9223372036854775808≤n∧n≤9223372036854775807:=by
 unfold z06 at h;split at h
 ·rename_i n' z he;obtain⟨rfl,rfl⟩:=h;have:=zb3 he;omega
 ·cases h
theorem zcS{s t:zB}{a b:Int}(h:zU s a=some (t,b)):0≤a∧a<b∧b≤s.length∧t.length≤10000:=by
 unfold zU at h;split at h
 ·rename_i t' b' he;unfold rdW at he;split at he
  ·cases he
  ·rename_i n z hr;have:=zb3 hr
   grind
 ·cases h
section
open Go Go.RowKit
structure Fld where
 n:zB
 t:Ty
 ix:Bool
structure Cls where
 n:zB
 fs:List Fld
def small(b:UInt8):Bool:=decide (97≤b.toNat∧b.toNat≤122)
def zS(b:UInt8):Bool:=small b||decide (48≤b.toNat∧b.toNat≤57)||b.toNat==95
def zb(s:zB):Bool:=decide (1≤s.length∧s.length≤20)&&small (s.headD 0)&&s.all zS
def zD(f:Fld):Bool:=zb f.n&&zi f.t&&(!f.ix||decide (f.t.k≤3))
def fieldAt(c:List Fld)(name:zB):Int:=z0N (fun f=>f.n==name) c
def z36(all:List Fld):Nat→List Fld→Bool
 |_,[]=>true
 |k,f::r=>zD f&&fieldAt all f.n==k&&z36 all (k+1) r
def zd(c:Cls):Bool:=zb c.n&&decide (c.fs.length≤8)&&z36 c.fs 0 c.fs
def z9u(f g:Fld):Bool:=f.n==g.n&&f.t.k==g.t.k&&f.t.o==g.t.o&&f.ix==g.ix
def z1T:List Fld→List Fld→Bool
 |[],[]=>true
 |f::r,g::q=>z9u f g&&z1T r q
 |_,_=>false
def z4s(a b:Cls):Bool:=a.n==b.n&&z1T a.fs b.fs
def z2L:Nat→List Fld→List V→Int×Int
 |_,[],_=>(0,0)
 |_,_,[]=>(0,0)
 |k,f::fs,v::vs=>if zJ v f.t then z2L (k+1) fs vs else(k,42)
def check(c:Cls)(vs:List V):Int×Int:=
 if !zd c then(0,40)else if vs.length≠c.fs.length then((min vs.length c.fs.length:Nat),42)else z2L 0 c.fs vs
def IsF(ok:Nat→Prop)(w:World)(l:List Fld)(c:Value):Prop:=
 ∃(b off cap:Nat) (p:Option Addr),c=.slice p l.length cap∧l.length≤cap∧cap≤maxLen∧(l≠[]→p=some ⟨b,off,none⟩∧ok b)∧
  ∀(i:Nat) (f:Fld),l[i]?=some f→w.cell? ⟨b,off+i*4,none⟩=some (.string (str f.n))∧w.cell? ⟨b,off+i*4+1,none⟩=some (.int .i64 f.t.k)
   ∧w.cell? ⟨b,off+i*4+2,none⟩=some (.int .i64 f.t.o)∧w.cell? ⟨b,off+i*4+3,none⟩=some (.bool f.ix)
theorem IsF.keepBy{ok:Nat→Prop}{w w':World}{l:List Fld}{c:Value}(h:IsF ok w l c)(hk:∀a v,ok a.block→w.cell? a=some v→w'.cell? a=some v):IsF ok w' l c:=by
 obtain⟨b,off,cap,p,h1,h2,h3,h4,h5⟩:=h;refine⟨b,off,cap,p,h1,h2,h3,h4,fun i f hf=> ?_⟩
 grind
theorem IsF.ext{ok:Nat→Prop}{w w':World}{l:List Fld}{c:Value}(h:IsF ok w l c)(hb:Below w.heap.size w w'):IsF ok w' l c:=
 h.keepBy fun _ _ _ hv=>(hb.cell (z1d hv)).trans hv
theorem IsF.keep{ok:Nat→Prop}{w w':World}{l:List Fld}{c:Value}(h:IsF ok w l c)(hk:∀b,ok b→w'.heap[b]?=w.heap[b]?):IsF ok w' l c:=
 h.keepBy fun a _ ho hv=>(World.cell?_of_block (w:=w) (hk a.block ho)).trans hv
theorem IsF.weaken{ok ok':Nat→Prop}{w:World}{l:List Fld}{c:Value}(h:IsF ok w l c)(hk:∀b,ok b→ok' b):IsF ok' w l c:=by
 obtain⟨b,off,cap,p,h1,h2,h3,h4,h5⟩:=h;exact⟨b,off,cap,p,h1,h2,h3,fun hl=>⟨(h4 hl).1,hk _ (h4 hl).2⟩,h5⟩
theorem IsF.none_{ok:Nat→Prop}{w:World}:IsF ok w [] (.slice none 0 0):=⟨0,0,0,none,rfl,by simp,Nat.zero_le _,by simp,by simp⟩
def pick(c n:Int):Int:=(if c<0 then -(c+1)else c)%n
theorem z0c(c n:Int)(hn:0<n):0≤pick c n∧pick c n<n:=⟨Int.emod_nonneg _ (by omega),Int.emod_lt_of_pos _ hn⟩
structure RawF where
 n:Int
 k:Int
 o:Int
 ix:Bool
structure Raw where
 n:Int
 fs:List RawF
def nmF(i:Int):zB:=([[97],[98,50],[110,97,109,101],[110,101,120,116,95,111,110,101],[107,105,100,115],[120]]:List (zB)).getD i.toNat []
def nmC(i:Int):zB:=([[110,111,100,101],[105,116,101,109],[117,115,101,114],[112,97,103,101,95,49],[108,101,97,102],[113]]:List (zB)).getD i.toNat []
def z3y(r:RawF):Fld:=⟨nmF (pick r.n 6),⟨1+pick r.k 5,if pick r.k 5=4 then 1+pick r.o 4 else 0⟩,r.ix&&decide (1+pick r.k 5≤3)⟩
def z1Q(acc:List Fld)(r:RawF):List Fld:=if fieldAt acc (z3y r).n<0 then acc++[z3y r] else acc
def z0x(x:Raw):Cls:=⟨nmC (pick x.n 6),(x.fs.take 6).foldl z1Q []⟩
theorem z7E{α:Type}(p:α→Bool)(l:List α)(k:Nat)(x:α)(hx:l[k]?=some x)(hp:p x=true)(h:∀(i:Nat) y,i<k→l[i]?=some y→p y=false):z0N p l=k:=by
 have:l.findIdx? p=some k:=by
  grind [List.findIdx?_eq_some_iff_getElem,List.getElem?_eq_some_iff,List.getElem?_eq_getElem]
 simp[z0N,this]
theorem z2W{α:Type}(p:α→Bool)(l:List α)(k:Nat)(h:z0N p l=k):∃x,l[k]?=some x∧p x=true:=by
 grind [z0N,List.findIdx?_eq_some_iff_getElem,List.getElem?_eq_getElem]
theorem z5f{α:Type}(p:α→Bool)(l:List α):z0N p l<0 ↔ ∀x∈l,p x=false:=by
 grind [z0N,List.findIdx?_eq_none_iff,List.findIdx?_eq_some_iff_getElem,List.getElem_mem]
def z6P(l:List Fld):Prop:=∀(i j:Nat) (f g:Fld),l[i]?=some f→l[j]?=some g→f.n=g.n→i=j
theorem zjs(all:List Fld):∀(r:List Fld) (k:Nat),z36 all k r=true ↔ ∀(i:Nat) f,r[i]?=some f→zD f=true∧fieldAt all f.n=((k+i:Nat):Int):=by
 intro r
 induction r with
 |nil=>grind [z36]
 |cons g r ih=>
  intro k;rw[z36,Bool.and_eq_true,Bool.and_eq_true,ih (k+1)];constructor
  ·grind
  ·intro h;have h0:=h 0 g (by simp);refine⟨⟨h0.1,by simpa using h0.2⟩,fun i f hf=> ?_⟩;have:=h (i+1) f (by grind)
   grind
theorem zhF{l:List Fld}(h:z6P l){i:Nat}{f:Fld}(hf:l[i]?=some f):fieldAt l f.n=i:=by
 refine z7E _ l i f hf (by simp) fun j y hj hy=> ?_;rw[beq_eq_false_iff_ne];intro he;have:=h j i y f hy hf he;omega
theorem z0X(c:Cls):zd c=true ↔ zb c.n=true∧c.fs.length≤8∧(∀f∈c.fs,zD f=true)∧z6P c.fs:=by
 rw[zd,Bool.and_eq_true,Bool.and_eq_true,zjs,decide_eq_true_iff];constructor
 ·rintro⟨⟨h1,h2⟩,h3⟩;refine⟨h1,h2,fun f hf=> ?_,fun i j f g hi hj he=> ?_⟩
  ·grind [List.getElem?_of_mem]
  ·grind
 ·grind [List.mem_of_getElem?,zhF]
theorem zlL(j:Int)(h0:0≤j)(h1:j<6):zb (nmF j)=true∧(nmF j).length≤8:=by
 have:j=0∨j=1∨j=2∨j=3∨j=4∨j=5:=by omega
 rcases this with rfl|rfl|rfl|rfl|rfl|rfl<;>decide
theorem zlK(j:Int)(h0:0≤j)(h1:j<6):zb (nmC j)=true∧(nmC j).length≤8:=by
 have:j=0∨j=1∨j=2∨j=3∨j=4∨j=5:=by omega
 rcases this with rfl|rfl|rfl|rfl|rfl|rfl<;>decide
theorem ze4(r:RawF):zD (z3y r)=true∧(z3y r).n.length≤8:=by
 have h1:=z0c r.n 6 (by omega);have h2:=z0c r.k 5 (by omega);have h3:=z0c r.o 4 (by omega);have h4:=zlL _ h1.1 h1.2;refine⟨?_,h4.2⟩;simp only[zD,z3y,h4.1,Bool.true_and,Bool.and_eq_true]
 grind [zi]
theorem zdi{l:List Fld}{f:Fld}(h:z6P l)(hn:fieldAt l f.n<0):z6P (l++[f]):=by
 have hno:=(z5f _ _).1 hn;intro i j a b ha hb he;rw[List.getElem?_append]at ha hb;split at ha<;>split at hb
 ·exact h i j a b ha hb he
 ·grind
 ·grind
 ·grind
theorem zlc:∀(rs:List RawF) (acc:List Fld),(∀f∈acc,zD f=true∧f.n.length≤8)→z6P acc→
  (∀f∈rs.foldl z1Q acc,zD f=true∧f.n.length≤8)∧z6P (rs.foldl z1Q acc)∧(rs.foldl z1Q acc).length≤acc.length+rs.length:=by
 intro rs
 induction rs with
 |nil=>intro acc h1 h2;exact⟨h1,h2,by simp⟩
 |cons r rs ih=>
  intro acc h1 h2;rw[List.foldl_cons];by_cases hn:fieldAt acc (z3y r).n<0
  ·have:z1Q acc r=acc++[z3y r]:=by rw[z1Q,if_pos hn]
   rw[this];have:=ih (acc++[z3y r]) (fun f hf=>by
    rcases List.mem_append.1 hf with hf|hf
    ·exact h1 f hf
    ·obtain rfl:=List.mem_singleton.1 hf;exact ze4 r) (zdi h2 hn)
   refine⟨this.1,this.2.1,?_⟩;simp at this ⊢;omega
  ·have:z1Q acc r=acc:=by rw[z1Q,if_neg hn]
   rw[this];have:=ih acc h1 h2;refine⟨this.1,this.2.1,?_⟩;simp at this ⊢;omega
structure GoodC(c:Cls):Prop where
 nm:zb c.n=true∧c.n.length≤8
 fs:∀f∈c.fs,zD f=true∧f.n.length≤8
 di:z6P c.fs
 len:c.fs.length≤6
theorem zeT(x:Raw):GoodC (z0x x):=by
 have h:=zlc (x.fs.take 6) [] (by simp) (by intro i j f g h;simp at h);have hb:=z0c x.n 6 (by omega);exact⟨zlK _ hb.1 hb.2,h.1,h.2.1,by have:=h.2.2;simp only[z0x];simp at this ⊢;omega⟩
theorem GoodC.right{c:Cls}(h:GoodC c):zd c=true:=(z0X c).2 ⟨h.nm.1,by have:=h.len;omega,fun f hf=>(h.fs f hf).1,h.di⟩
end
section
open Go
def zM(s:zB):Int:=
 if s=[42]∨s=[47]∨s=[37] then 4 else if s=[43]∨s=[45] then 3 else if s=[38] then 2
 else if s=[61]∨s=[60,62]∨s=[60]∨s=[60,61]∨s=[62]∨s=[62,61] then 1 else 0
def zt(s:zB):Int:=
 if s=[108,101,110]∨s=[116,101,120,116]∨s=[110,117,109] then 1
 else if s=[108,101,102,116]∨s=[114,105,103,104,116]∨s=[102,114,111,109]∨s=[102,105,110,100]∨s=[109,105,110]∨s=[109,97,120] then 2
 else if s=[105,102] then 3 else 0
def z0F(e:V):Bool:=
 if e.k≠1∧e.n≠0 then false
 else if e.k=1 then decide (0≤e.n)&&decide (e.n≤1000000000000000)&&e.s==[]&&e.l.length==0
 else if e.k=2 then zl e.s&&e.l.length==0
 else if e.k=3 then zb e.s&&e.l.length==0
 else if e.k=4 then decide (0<zM e.s)&&e.l.length==2
 else if e.k=5 then e.s==[45]&&e.l.length==1
 else if e.k=6 then decide (0<zt e.s)&&decide ((e.l.length:Int)=zt e.s)
 else false
def okE:Nat→V→Bool
 |0,_=>false
 |d+1,e=>z0F e&&e.l.all (okE d)
def szE:Nat→V→Nat
 |0,_=>1
 |d+1,e=>1+(e.l.map (szE d)).sum
def z15(e:V):Bool:=okE 8 e&&decide (szE 8 e≤40)
structure Pc where
 k:Int
 n:Int
 s:zB
 p:Nat
def z1I(b:UInt8):Bool:=decide (48≤b.toNat∧b.toNat≤57)
def z1f:zB→Int→Nat→Int×Nat
 |[],n,z=>(n,z)
 |b::r,n,z=>if z1I b then z1f r (min (10*n+((b.toNat:Int) - 48)) 1000000000000001) (z+1)else(n,z)
def z0O:zB→Nat
 |[]=>0
 |b::r=>if zS b then z0O r+1 else 0
def quoG:zB→zB→Nat→Option (zB×Nat)
 |[],_,_=>none
 |b::r,acc,k=>if b=34 then(if zl acc then some (acc,k+1)else none)
  else if b=92 then(match r with
   |[]=>none
   |c::r'=>if c=34∨c=92 then quoG r' (acc++[c]) (k+2)else none)
  else quoG r (acc++[b]) (k+1)
def z19:zB→zB
 |[]=>[]
 |b::r=>if b=60 then(if r.head?=some 62 then [60,62] else if r.head?=some 61 then [60,61] else [60])
  else if b=62 then(if r.head?=some 61 then [62,61] else [62])
  else if b=61∨b=38∨b=43∨b=45∨b=42∨b=47∨b=37∨b=40∨b=41∨b=44 then [b] else []
def z0l(l:zB)(at_:Nat):Option (Pc×Nat):=
 match l with
 |[]=>none
 |b::r=>
  if z1I b then(if 1000000000000000<(z1f l 0 0).1 then none else some (⟨1,(z1f l 0 0).1,[],at_⟩,(z1f l 0 0).2))
  else if small b then(if zb (l.take (z0O l))then some (⟨3,0,l.take (z0O l),at_⟩,z0O l)else none)
  else if b=34 then(match quoG r [] 1 with
   |some (t,k)=>some (⟨2,0,t,at_⟩,k)
   |none=>none)
  else if z19 l=[] then none else some (⟨4,0,z19 l,at_⟩,(z19 l).length)
inductive Lx where
 |ok (L:List Pc)
 |bad (p:Nat)
def z10:Nat→zB→Nat→List Pc→Option Lx
 |0,_,_,_=>none
 |f+1,l,at_,acc=>match l with
  |[]=>some (.ok acc)
  |b::r=>if b=32 then z10 f r (at_+1) acc else match z0l l at_ with
   |none=>some (.bad at_)
   |some (q,z)=>z10 f (l.drop z) (at_+z) (acc++[q])
inductive Rs(α:Type) where
 |ok (e:α) (p:Nat)
 |bad (a p:Nat)
def pkP(L:List Pc)(sz p:Nat):Pc:=(L[p]?).getD ⟨0,0,[],sz⟩
def z01(q:Pc)(t:zB):Bool:=q.k==4&&q.s==t
mutual
def pE(L:List Pc)(sz:Nat):Nat→Int→Nat→Option (Rs V)
 |0,_,_=>none
 |f+1,zu,p=>match pT L sz f p with
  |some (.ok e p')=>pL L sz f zu e p'
  |some (.bad a p')=>some (.bad a p')
  |none=>none
def pL(L:List Pc)(sz:Nat):Nat→Int→V→Nat→Option (Rs V)
 |0,_,_,_=>none
 |f+1,zu,e,p=>
  if(pkP L sz p).k≠4∨zM (pkP L sz p).s<zu then some (.ok e p)
  else match pE L sz f (zM (pkP L sz p).s+1) (p+1)with
   |some (.ok e2 p2)=>pL L sz f zu (.mk 4 0 (pkP L sz p).s [e,e2]) p2
   |some (.bad a p')=>some (.bad a p')
   |none=>none
def pT(L:List Pc)(sz:Nat):Nat→Nat→Option (Rs V)
 |0,_=>none
 |f+1,p=>
  if z01 (pkP L sz p) [40] then(match pE L sz f 1 (p+1)with
   |some (.ok e p')=>if z01 (pkP L sz p') [41] then some (.ok e (p'+1))else some (.bad (pkP L sz p').p p')
   |some (.bad a p')=>some (.bad a p')
   |none=>none)
  else if z01 (pkP L sz p) [45] then(match pT L sz f (p+1)with
   |some (.ok e p')=>some (.ok (.mk 5 0 [45] [e]) p')
   |some (.bad a p')=>some (.bad a p')
   |none=>none)
  else if(pkP L sz p).k=1 then some (.ok (.mk 1 (pkP L sz p).n [] []) (p+1))
  else if(pkP L sz p).k=2 then some (.ok (.mk 2 0 (pkP L sz p).s []) (p+1))
  else if(pkP L sz p).k=3 then(if 0<zt (pkP L sz p).s∧z01 (pkP L sz (p+1)) [40]=true then(match pH L sz f (zt (pkP L sz p).s).toNat 0 (p+2) []with
    |some (.ok l p')=>some (.ok (.mk 6 0 (pkP L sz p).s l) p')
    |some (.bad a p')=>some (.bad a p')
    |none=>none)
   else some (.ok (.mk 3 0 (pkP L sz p).s []) (p+1)))
  else some (.bad (pkP L sz p).p (p+1))
def pH(L:List Pc)(sz:Nat):Nat→Nat→Nat→Nat→List V→Option (Rs (List V))
 |0,_,_,_,_=>none
 |f+1,n,k,p,acc=>
  if k<n then(if 0<k∧z01 (pkP L sz p) [44]=false then some (.bad (pkP L sz p).p p)
   else match pE L sz f 1 (if 0<k then p+1 else p)with
    |some (.ok e p')=>pH L sz f n (k+1) p' (acc++[e])
    |some (.bad a p')=>some (.bad a p')
    |none=>none)
  else if z01 (pkP L sz p) [41] then some (.ok acc (p+1))else some (.bad (pkP L sz p).p p)
end
def z2P(f:Nat)(l:zB):Option (V×Int×Int):=
 if 200<l.length then some (V.nil,200,50)
 else match z10 (l.length+1) l 0 []with
  |none=>none
  |some (.bad a)=>some (V.nil,a,50)
  |some (.ok L)=>match pE L l.length f 1 0 with
   |some (.ok e p)=>if p<L.length then some (V.nil,(pkP L l.length p).p,50)else if z15 e then some (e,0,0)else some (V.nil,0,51)
   |some (.bad a _)=>some (V.nil,a,50)
   |none=>none
abbrev T3:=Int×Int×zB
def er(q:Pc):T3:=(q.k,q.n,q.s)
def sg(s:zB):T3:=(4,0,s)
def zfs(e:V)(zu:Int)(t:List T3):List T3:=if e.k=4∧zM e.s<zu then sg [40]::(t++[sg [41]])else t
def ztv:List (List T3)→List T3
 |[]=>[]
 |x::r=>x++(r.map fun y=>sg [44]::y).flatten
def zcZ:Nat→V→List T3
 |0,_=>[]
 |d+1,e=>
  if e.k=1 then [(1,e.n,[])]
  else if e.k=2 then [(2,0,e.s)]
  else if e.k=5 then sg [45]::zfs (e.l.getD 0 V.nil) 5 (zcZ d (e.l.getD 0 V.nil))
  else if e.k=4 then zfs (e.l.getD 0 V.nil) (zM e.s) (zcZ d (e.l.getD 0 V.nil))++sg e.s::zfs (e.l.getD 1 V.nil) (zM e.s+1) (zcZ d (e.l.getD 1 V.nil))
  else if e.k=6 then(3,0,e.s)::sg [40]::(ztv (e.l.map (zcZ d))++[sg [41]])
  else [(3,0,e.s)]
def LexP(t:zB)(ts:List T3)(post:zB):Prop:=
 ∀(f a:Nat) (acc:List Pc),t.length+post.length<f→∃f' L,post.length<f'∧L.map er=ts∧z10 f (t++post) a acc=z10 f' post (a+t.length) (acc++L)
theorem LexP.nil(post:zB):LexP [] [] post:=fun f a acc h=>⟨f,[],by simpa using h,rfl,by simp⟩
theorem LexP.app{t1 t2:zB}{ts1 ts2:List T3}{post:zB}(h1:LexP t1 ts1 (t2++post))(h2:LexP t2 ts2 post):LexP (t1++t2) (ts1++ts2) post:=by
 intro f a acc hf;obtain⟨f1,L1,a1,a2,a3⟩:=h1 f a acc (by grind);obtain⟨f2,L2,b1,b2,b3⟩:=h2 f1 (a+t1.length) (acc++L1) (by grind);refine⟨f2,L1++L2,b1,by rw[List.map_append,a2,b2],?_⟩
 grind
theorem LexP.one{t:zB}{q:T3}{post:zB}{b:UInt8}{r:zB}(ht:t=b::r)(hb:b≠32)(h:∀a,∃p,z0l (t++post) a=some (p,t.length)∧er p=q):LexP t [q] post:=by
 intro f a acc hf;obtain⟨f,rfl⟩:∃g,f=g+1:=⟨f-1,by omega⟩
 obtain⟨p,h1,h2⟩:=h a;refine⟨f,[p],by subst ht;simp at hf;omega,by simp[h2],?_⟩
 grind [z10]
theorem zrj(d:Nat)(hd:d<10):(UInt8.ofNat (48+d)).toNat=48+d:=by rw[UInt8.toNat_ofNat'];omega
theorem zqq(post acc:zB)(k:Nat):quoG (34::post) acc k=if zl acc then some (acc,k+1)else none:=by
 rw[quoG.eq_def];rfl
theorem zqr(c:UInt8)(r acc:zB)(k:Nat):quoG (92::c::r) acc k=if c=34∨c=92 then quoG r (acc++[c]) (k+2)else none:=by
 grind [quoG]
theorem zrZ{b:UInt8}(h1:b≠34)(h2:b≠92)(r acc:zB)(k:Nat):quoG (b::r) acc k=quoG r (acc++[b]) (k+1):=by
 rw[quoG.eq_def];simp only[if_neg h1,if_neg h2]
theorem zgG{s:zB}(h:0<zM s):s=[42]∨s=[47]∨s=[37]∨s=[43]∨s=[45]∨s=[38]∨s=[61]∨s=[60,62]∨s=[60]∨s=[60,61]∨s=[62]∨s=[62,61]:=by
 grind [zM]
theorem z9R{d:Nat}{e:V}(h:okE (d+1) e=true):z0F e=true∧∀x∈e.l,okE d x=true:=by
 rw[okE,Bool.and_eq_true]at h
 grind
theorem zjm{e:V}(h:z0F e=true)(hk:e.k=1):0≤e.n∧e.n≤1000000000000000∧e.s=[]∧e.l=[]:=by
 grind [z0F]
theorem zbP{e:V}(h:z0F e=true)(hk:e.k≠1):e.n=0:=by
 grind [z0F]
theorem zbQ{e:V}(h:z0F e=true)(hk:e.k=2):e.n=0∧zl e.s=true∧e.l=[]:=by
 grind [zbP,z0F]
theorem zjn{e:V}(h:z0F e=true)(hk:e.k=3):e.n=0∧zb e.s=true∧e.l=[]:=by
 grind [zbP,z0F]
theorem z9M{e:V}(h:z0F e=true)(hk:e.k=4):e.n=0∧0<zM e.s∧∃a b,e.l=[a,b]:=by
 have h0:=zbP h (by omega);unfold z0F at h;rw[if_neg (by simp[h0]),if_neg (by omega),if_neg (by omega),if_neg (by omega),if_pos hk]at h;simp at h;refine⟨h0,h.1,?_⟩
 match hl:e.l,h.2 with
 |[a,b],_=>simp
theorem zbR{e:V}(h:z0F e=true)(hk:e.k=5):e.n=0∧e.s=[45]∧∃a,e.l=[a]:=by
 have h0:=zbP h (by omega);unfold z0F at h;rw[if_neg (by simp[h0]),if_neg (by omega),if_neg (by omega),if_neg (by omega),if_neg (by omega),if_pos hk]at h;simp at h;refine⟨h0,h.1,?_⟩
 match hl:e.l,h.2 with
 |[a],_=>simp
theorem z9N{e:V}(h:z0F e=true)(hk:e.k=6):e.n=0∧0<zt e.s∧(e.l.length:Int)=zt e.s:=by
 grind [zbP,z0F]
theorem z4p{e:V}(h:z0F e=true):e.k=1∨e.k=2∨e.k=3∨e.k=4∨e.k=5∨e.k=6:=by
 grind [z0F]
end
section
open Go
section
variable{L:List Pc}{sz p:Nat}{t:T3}{ts r post:List T3}
end
def NP(post:List T3):Prop:=∀t r,post=t::r→t.1=4∧t.2.2≠[40]
def zsM(zu:Int)(post:List T3):Prop:=∀t r,post=t::r→t.1=4→zM t.2.2<zu
def PK(d:Nat):Prop:=∀e,okE d e=true→∀(m zu:Int),zu≤m→∀(L:List Pc) (sz p:Nat) (post:List T3),(L.drop p).map er=zfs e m (zcZ d e)++post→NP post→(e.k=4→m≤zM e.s→zsM (zM e.s+1) post)→
 ∃F j,∀f,F≤f→pE L sz (f+j) zu p=pL L sz f zu e (p+(zfs e m (zcZ d e)).length)
end
end Go.Mor
end
