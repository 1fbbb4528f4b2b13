/- Merged texts: Zh1 Zh2 Zh3 Zh4 Zf4 Yd4. No statement of the program is proved here. -/
import Derived.Test.YtbkgnekfigknhaaGreatDoorR40
set_option linter.unusedSimpArgs false
set_option linter.unusedVariables false
set_option maxRecDepth 100000
set_option maxHeartbeats 8000000
section
namespace Go.Proofs.YtbkgnekfigknhaaGreatDoor
open Go Go.RowKit Go.Mor Go.Sh Go.Sh.Cd1
section
open Go.Sh.Cd6
def mkC(l:zB)(c:Cls)(a:Nat):MO:=.box [.pv (.sl 1 (byR l)),I (a:Int),S (str c.n),.pv (.sl 4 (flR c.fs))]
theorem z2T(g:Sh.Glob)(l:zB)(c:Cls)(a:Nat)(hl:l.length≤9223372036854775807)(ha:a≤l.length):
  zC g 86 [.ptr 1000 0] [mkC l c a] (I ((nxB l a).1:Int)) [mkC l c (nxB l a).2]:=by
 refine zo tf_30 ?_;unfold mkC;by_cases hlt:a<l.length
 ·obtain⟨b,eb⟩:∃b,l[a]?=some b:=⟨_,gE hlt⟩
  have hn:nxB l a=(b.toNat,a+1):=by unfold nxB;rw[eb]
  have hb:=b.toNat_lt;have d1:¬(l.length:Int)≤(a:Int):=by omega
  have w1:=wS a;have w2:IntKind.i64.wrap (((a+1:Nat):Int) - 1)=(a:Int):=wG;have w3:IntKind.i64.wrap (b.toNat:Int)=(b.toNat:Int):=wrap64 (by omega) (by omega);rw[hn];simp only[vW,seval,z3A,d1,w1,w2,zsx,eb,w3]
 ·have d1:(l.length:Int)≤(a:Int):=by omega
  have hn:nxB l a=(0,a):=by unfold nxB;rw[List.getElem?_eq_none (by omega)]
  rw[hn];simp only[vW,seval,z3A,d1]
theorem z9w{n i:Nat}{p:Nat→Bool}(hi:i<n)(h:p i=true)(hb:∀j,j<i→p j=false):(List.range n).find? p=some i:=by
 rw[List.find?_range_eq_some];exact⟨h,List.mem_range.2 hi,fun j hj=>by rw[hb j hj];rfl⟩
theorem zpJ{n:Nat}{p:Nat→Bool}(hb:∀j,j<n→p j=false):(List.range n).find? p=none:=by
 rw[List.find?_eq_none];intro x hx;rw[hb x (List.mem_range.1 hx)];simp
theorem zs6{i:Nat}(h:i<4):([[PV.v (.string ⟨#[]⟩)],[.v (.string ⟨#[97]⟩)],[.v (.string ⟨#[98,32,99]⟩)],[.v (.string ⟨#[195,169,116,195,169]⟩)]]:List (List PV))[i]?=some [.v (.string (str (txF.getD i [])))]:=by
 have:i=0∨i=1∨i=2∨i=3:=by omega
 rcases this with rfl|rfl|rfl|rfl<;>rfl
theorem z8q(g:Sh.Glob)(l:zB)(c:Cls)(a:Nat)(kind:Int)(hl:l.length≤9223372036854775807)(hc:c.fs.length≤1000)(ha:a≤l.length):
  zC g 50 [.ptr 1000 0,I kind] [mkC l c a] (nv (z4t l c.fs kind a).1) [mkC l c (z4t l c.fs kind a).2]:=by
 have HB:=z2T g l c a hl ha;have n255:=z8N l a;unfold z4t;simp only[];unfold mkC at*;generalize(nxB l a).2=b at*;generalize(nxB l a).1=n at*;obtain⟨R,hR⟩:∃R,z67 c.fs kind n=R:=⟨_,rfl⟩
 rw[hR];unfold nv;refine z0x tf_29 ?_;refine z8 HB ?_;refine zp (σ:={i:Nat // i≤c.fs.length∧∀j,j<i→((c.fs.getD ((j+n)%c.fs.length) zcw).t.k==kind)=false}) (fun i=>⟨[(0,.ptr 1000 0),(1,I kind),(4,.ptr 4 0),(5,I (n:Int)),(6,I (i.1:Int))],
   [(1000,[.pv (.sl 1 (byR l)),I (b:Int),S (str c.n),.pv (.sl 4 (flR c.fs))]),(4,[I 0,I 0,S ⟨#[]⟩,.pv (.v (.slice none 0 0))])],[],[]⟩) (fun i=>c.fs.length-i.1) ⟨0,Nat.zero_le _,fun j h=>absurd h (by omega)⟩ ?_ ?_
 ·exact lwA
 rintro⟨i,hi,hno⟩;by_cases hlt:i<c.fs.length
 ·have d1:(i:Int)<(c.fs.length:Int):=by omega
  have w1:IntKind.i64.wrap ((i:Int)+(n:Int))=((i+n:Nat):Int):=wG;have w2:=wS i;have hm:((i+n:Nat):Int).tmod (c.fs.length:Int)=(((i+n)%c.fs.length:Nat):Int):=(Int.ofNat_tmod _ _).symm;have hlm:=Nat.mod_lt (i+n) (show 0<c.fs.length by omega);have hne:¬(c.fs.length:Int)=0:=by omega
  obtain⟨f,ef⟩:∃f,c.fs[(i+n)%c.fs.length]?=some f:=⟨_,gE hlm⟩
  have hg:c.fs.getD ((i+n)%c.fs.length) zcw=f:=z4T ef;by_cases hk:f.t.k=kind
  ·have hf:(List.range c.fs.length).find? (fun i=>(c.fs.getD ((i+n)%c.fs.length) zcw).t.k==kind)=some i:=z9w hlt (by rw[hg,hk];exact beq_self_eq_true _) hno;unfold z67 at hR;rw[hf]at hR;simp only[hg]at hR;subst hR;simp only[vW,seval,clV,d1,w1,hm,ef,hk,hne]
  ·simp only[vW,seval,clV,d1,w1,w2,hm,ef,hk,hne];refine zc ⟨i+1,by omega,fun j hj=>by
    rcases Nat.lt_or_ge j i with h|h
    ·exact hno j h
    ·obtain rfl:j=i:=by omega
     rw[hg];exact beq_eq_false_iff_ne.2 hk⟩ (by show c.fs.length-(i+1)<c.fs.length-i;omega) ?_
   exact lwA
 ·have d1:¬(i:Int)<(c.fs.length:Int):=by omega
  obtain rfl:i=c.fs.length:=by omega
  unfold z67 at hR;rw[zpJ hno]at hR;simp only at hR;by_cases h1:kind=1
  ·rw[if_pos h1]at hR;subst hR;simp only[vW,seval,clV,d1,h1];rfl
  ·rw[if_neg h1]at hR;have h4:=Nat.mod_lt n (show 0<4 by omega);have hx4:(n:Int).tmod 4=((n%4:Nat):Int):=z2k _ rfl;subst hR;generalize n%4=i at*;have e1:=zs6 h4;simp only[vW,seval,clV,d1,h1,hx4,e1]
end
section
open Go.Sh.Cd6
def z5V(g:Sh.Glob)(l:zB)(c:Cls)(d:Nat):Prop:=∀kind a,(kind=1∨kind=2)→a≤l.length→zC g 48 [.ptr 1000 0,I kind,I (d:Int)] [mkC l c a] (tv (z0l l c.fs d kind a).1) [mkC l c (z0l l c.fs d kind a).2]
def z4y(p:zB):List Int:=p.map fun b=>if(b.toNat:Int)=116 then 2 else 1
section
variable{g:Sh.Glob}{l:zB}{c:Cls}
theorem z3p(d:Nat)(hd:d≤4)(T:z5V g l c d)(hle:∀kind a,a≤l.length→(z0l l c.fs d kind a).2≤l.length)(s p:zB)(hp:p.length≤3)(a:Nat)(ha:a≤l.length):
  zC g 87 [.ptr 1000 0,S (str s),S (str p),I ((d+1:Nat):Int)] [mkC l c a] (tv (Go.Mor.callM (z0l l c.fs d) s (z4y p) a).1) [mkC l c (Go.Mor.callM (z0l l c.fs d) s (z4y p) a).2]:=by
 have wd:IntKind.i64.wrap (((d+1:Nat):Int) - 1)=(d:Int):=wG;unfold z5V mkC tv at*;unfold Go.Mor.callM;obtain⟨K,hK⟩:∃K,z1v (z0l l c.fs d) (z4y p) a=K:=⟨_,rfl⟩
 rw[hK];refine z0x tf_28 ?_;refine zp (σ:={y:Nat×Nat×List V // y.1≤p.length∧y.2.1≤l.length∧y.2.2.length=y.1∧y.2.2++(z1v (z0l l c.fs d) (z4y (p.drop y.1)) y.2.1).1=K.1∧(z1v (z0l l c.fs d) (z4y (p.drop y.1)) y.2.1).2=K.2})
  (fun y=>⟨[(0,.ptr 1000 0),(2,S (str p)),(3,I ((d+1:Nat):Int)),(8,.ptr 8 0),(9,.ptr 9 0),(10,I (y.1.1:Int))],[(1000,[.pv (.sl 1 (byR l)),I (y.1.2.1:Int),S (str c.n),.pv (.sl 4 (flR c.fs))]),(8,[I 0,I 0,S ⟨#[]⟩,.pv (.v (.slice none 0 0))]),(9,[I 6,I 0,S (str s),.own 3000 4 (V.rows y.1.2.2)])],[(3000,(71,4,y.1.1))],[]⟩) (fun y=>p.length-y.1.1)
  ⟨(0,a,[]),Nat.zero_le _,ha,rfl,by simp only[List.drop_zero,hK];rfl,by simp only[List.drop_zero,hK]⟩ ?_ ?_
 ·refine ES.Lw.trans ?_ (z64 (x:=9) (j:=3) (d:=3000) (e:=71) (W:=4) (.inr (by decide)) (by decide) rfl (by simp only[vcA,seval]) rfl);exact z0M rfl
 rintro⟨⟨j,b,acc⟩,hj,hc,hacc,hk1,hk2⟩;simp only at hj hc hacc hk1 hk2;by_cases hlt:j<p.length
 ·have d1:(j:Int)<(p.length:Int):=by omega
  obtain⟨x,ex⟩:∃x,p[j]?=some x:=⟨_,gE hlt⟩
  have hdr:p.drop j=x::p.drop (j+1):=by rw[List.drop_eq_getElem_cons hlt];congr 1;exact(gJ ex).2
  rw[hdr]at hk1 hk2;have w1:=wS j;have hacc':(V.rows acc).length=j:=by rw[z1m,hacc]
  unfold z4y at hk1 hk2;rw[List.map_cons]at hk1 hk2;unfold z1v at hk1 hk2;simp only at hk1 hk2;by_cases hx:(x.toNat:Int)=116
  ·rw[if_pos hx]at hk1 hk2;have HT:=T 2 b (.inr rfl) hc;have hcl:=hle 2 b hc;simp only[vW,seval,d1,wd,ex,hx];refine z7 HT ?_;simp only[vW,seval,hacc,w1];refine⟨⟨by omega,by unfold maxLen;omega⟩,zc ⟨(j+1,(z0l l c.fs d 2 b).2,acc++[(z0l l c.fs d 2 b).1]),hlt,hcl,by simp[hacc],by simp only;rw[List.append_assoc];exact hk1,hk2⟩ (by show p.length-(j+1)<p.length-j;omega) ?_⟩;simp only[z1M];exact lwA
  ·rw[if_neg hx]at hk1 hk2;have HT:=T 1 b (.inl rfl) hc;have hcl:=hle 1 b hc;simp only[vW,seval,d1,wd,ex,hx];refine z7 HT ?_;simp only[vW,seval,hacc,w1];refine⟨⟨by omega,by unfold maxLen;omega⟩,zc ⟨(j+1,(z0l l c.fs d 1 b).2,acc++[(z0l l c.fs d 1 b).1]),hlt,hcl,by simp[hacc],by simp only;rw[List.append_assoc];exact hk1,hk2⟩ (by show p.length-(j+1)<p.length-j;omega) ?_⟩;simp only[z1M];exact lwA
 ·have d1:¬(j:Int)<(p.length:Int):=by omega
  obtain rfl:j=p.length:=by omega
  rw[List.drop_length]at hk1 hk2;unfold z4y at hk1 hk2;rw[List.map_nil]at hk1 hk2;unfold z1v at hk1 hk2;simp only[List.append_nil]at hk1 hk2;simp only[vW,seval,d1];rw[←hk1,←hk2]
theorem zcQ(d:Nat)(hd:d≤4)(T:z5V g l c d)(hle:∀kind a,a≤l.length→(z0l l c.fs d kind a).2≤l.length)(s:zB)(k:Int)(hk:k=1∨k=2)(a:Nat)(ha:a≤l.length):
  zC g 88 [.ptr 1000 0,S (str s),I k,I ((d+1:Nat):Int)] [mkC l c a] (tv (z5G (z0l l c.fs d) s k a).1) [mkC l c (z5G (z0l l c.fs d) s k a).2]:=by
 have wd:IntKind.i64.wrap (((d+1:Nat):Int) - 1)=(d:Int):=wG;have HT1:=T k a hk ha;have HT2:=T k _ hk (hle k a ha);unfold mkC tv at*;unfold z5G;refine zo tf_32 ?_;simp only[vW,seval,wd];refine z7 HT1 ?_;simp only[vW,seval,wd];refine z7 HT2 ?_;simp only[vW,seval,zpn]
end
end
section
open Go.Sh.Cd6
theorem zlY{i:Nat}(h:i<6):([[PV.v (.string ⟨#[]⟩)],[.v (.string ⟨#[97]⟩)],[.v (.string ⟨#[98,32,99]⟩)],[.v (.string ⟨#[195,169,116,195,169]⟩)],[.v (.string ⟨#[45,55]⟩)],[.v (.string ⟨#[122,122]⟩)]]:List (List PV))[i]?=some [.v (.string (str (txT.getD i [])))]:=by
 have:i=0∨i=1∨i=2∨i=3∨i=4∨i=5:=by omega
 rcases this with rfl|rfl|rfl|rfl|rfl|rfl<;>rfl
theorem zqV{i:Nat}(h:i<3):([[PV.v (.string ⟨#[108,101,102,116]⟩)],[.v (.string ⟨#[114,105,103,104,116]⟩)],[.v (.string ⟨#[102,114,111,109]⟩)]]:List (List PV))[i]?=some [.v (.string (str (cl3.getD i [])))]:=by
 have:i=0∨i=1∨i=2:=by omega
 rcases this with rfl|rfl|rfl<;>rfl
theorem zqU{i:Nat}(h:i<2):([[PV.v (.string ⟨#[108,101,110]⟩)],[.v (.string ⟨#[110,117,109]⟩)]]:List (List PV))[i]?=some [.v (.string (str (cl2.getD i [])))]:=by
 have:i=0∨i=1:=by omega
 rcases this with rfl|rfl<;>rfl
theorem zpy{i:Nat}(h:i<2):([[PV.v (.string ⟨#[109,105,110]⟩)],[.v (.string ⟨#[109,97,120]⟩)]]:List (List PV))[i]?=some [.v (.string (str (clMM.getD i [])))]:=by
 have:i=0∨i=1:=by omega
 rcases this with rfl|rfl<;>rfl
theorem zpA{i:Nat}(h:i<6):([[PV.v (.string ⟨#[61]⟩)],[.v (.string ⟨#[60,62]⟩)],[.v (.string ⟨#[60]⟩)],[.v (.string ⟨#[60,61]⟩)],[.v (.string ⟨#[62]⟩)],[.v (.string ⟨#[62,61]⟩)]]:List (List PV))[i]?=some [.v (.string (str (cmpM.getD i [])))]:=by
 have:i=0∨i=1∨i=2∨i=3∨i=4∨i=5:=by omega
 rcases this with rfl|rfl|rfl|rfl|rfl|rfl<;>rfl
theorem zqs{i:Nat}(h:i<5):([[PV.v (.string ⟨#[43]⟩)],[.v (.string ⟨#[45]⟩)],[.v (.string ⟨#[42]⟩)],[.v (.string ⟨#[47]⟩)],[.v (.string ⟨#[37]⟩)]]:List (List PV))[i]?=some [.v (.string (str (sumM.getD i [])))]:=by
 have:i=0∨i=1∨i=2∨i=3∨i=4:=by omega
 rcases this with rfl|rfl|rfl|rfl|rfl<;>rfl
theorem z68(fs:List Fld)(k:Int)(n:Nat):(z67 fs k n).l=[]:=by
 unfold z67;split
 ·rfl
 ·split<;>rfl
theorem zsR:(⟨#[116,101,120,116]⟩:ByteArray)=str z1l:=rfl
theorem zoZ:(⟨#[105,102]⟩:ByteArray)=str nIf:=rfl
theorem zsQ:(⟨#[102,105,110,100]⟩:ByteArray)=str z2l:=rfl
theorem zrs:(⟨#[38]⟩:ByteArray)=str [38]:=rfl
theorem zrt:(⟨#[45]⟩:ByteArray)=str [45]:=rfl
theorem zsJ:(⟨#[110]⟩:ByteArray)=str [110]:=rfl
theorem zsK:(⟨#[116,110]⟩:ByteArray)=str [116,110]:=rfl
theorem zsL:(⟨#[110,116,116]⟩:ByteArray)=str [110,116,116]:=rfl
theorem zsM:(⟨#[116]⟩:ByteArray)=str [116]:=rfl
theorem zsN:(⟨#[116,116]⟩:ByteArray)=str [116,116]:=rfl
theorem zsO:(⟨#[110,110]⟩:ByteArray)=str [110,110]:=rfl
theorem zsP:(⟨#[110,110,110]⟩:ByteArray)=str [110,110,110]:=rfl
section
variable{g:Sh.Glob}{l:zB}{c:Cls}
theorem zdB{t:Int→Nat→V×Nat}{N:Nat}(h:∀k a,a≤N→(t k a).2≤N):∀(ks:List Int) (a:Nat),a≤N→(z1v t ks a).2≤N
 |[],a,ha=>ha
 |k::r,a,ha=>by unfold z1v;exact zdB h r _ (h k a ha)
theorem z86(fs:List Fld):∀(d:Nat) (kind:Int) (a:Nat),a≤l.length→(z0l l fs d kind a).2≤l.length
 |0,kind,a,ha=>z3N ha
 |d+1,kind,a0,ha=>by
  have ih:=fun k a h=>z86 fs d k a h;have h1:=z3N (l:=l) ha;have h2:=z3N h1;have h3:=z3N h2;have hp:=fun ks a h=>zdB (N:=l.length) ih ks a h;have h4:=z3N h3;unfold z0l;simp only[];generalize(if d=0 then(nxB l a0).1%2 else(nxB l a0).1)=k;split
  ·(repeat' split)
   ·exact h2
   ·exact h2
   ·exact hp _ _ h1
   ·exact hp _ _ h2
   ·exact hp _ _ h1
   ·exact ih _ _ (ih _ _ h1)
  ·(repeat' split)
   ·exact h2
   ·exact h3
   ·exact ih _ _ h1
   ·exact hp _ _ h2
   ·exact hp _ _ h1
   ·exact hp _ _ h2
   ·exact hp _ _ h1
   ·exact ih _ _ (ih _ _ h3)
   ·exact ih _ _ (ih _ _ h2)
theorem zcb(d:Nat)(hd:d≤4)(hl:l.length≤9223372036854775807)(hc:c.fs.length≤1000)(IH:d=0∨z5V g l c d)(a0:Nat)(ha:a0≤l.length):
  zC g 48 [.ptr 1000 0,I 2,I ((d+1:Nat):Int)] [mkC l c a0] (tv (z0l l c.fs (d+1) 2 a0).1) [mkC l c (z0l l c.fs (d+1) 2 a0).2]:=by
 have HB0:=z2T g l c a0 hl ha;have h1:=z3N (l:=l) ha;have k255:=z8N l a0;have wd:IntKind.i64.wrap (((d+1:Nat):Int) - 1)=(d:Int):=wG;have hle:=fun k a h=>z86 (l:=l) c.fs d k a h;unfold z0l;simp only[];generalize(nxB l a0).2=a at*;generalize(nxB l a0).1=x at*;have HF:=z8q g l c a 2 hl hc h1;have HB:=z2T g l c a hl h1;have h2:=z3N h1;have b255:=z8N l a;have HB2:=z2T g l c _ hl h2;have h3:=z3N h2;have HB3:=z2T g l c _ hl h3;have h4:=z3N h3;unfold mkC at HF HB HB0 HB2 HB3 ⊢;rw[if_pos (by decide)];by_cases h:d=0
 ·have dd:((d+1:Nat):Int)≤1:=by omega
  have hr2:(x:Int).tmod 2=((x%2:Nat):Int):=z2k _ rfl;have x2:=Nat.mod_lt x (show 0<2 by omega);rw[if_pos h];generalize x%2=y at*;have hm:(y:Int).tmod 8=((y%8:Nat):Int):=z2k _ rfl;by_cases e0:y%8=0
  ·have c0:((y%8:Nat):Int)=0:=by omega
   rw[if_pos e0];refine SCalls.out ?_ (z1q (z68 _ _ _));unfold nv at HF ⊢;refine z0x tf_31 ?_;refine z7 HB0 ?_;simp only[vW,seval,dd,hr2,hm,c0];exact zd HF
  have c0:¬((y%8:Nat):Int)=0:=by omega
  rw[if_neg e0];by_cases e1:y%8=1
  ·have c1:((y%8:Nat):Int)=1:=by omega
   rw[if_pos e1];refine SCalls.out ?_ (z1q rfl);unfold nv;have hn:=Nat.mod_lt (nxB l a).1 (show 0<6 by omega);have hx:((nxB l a).1:Int).tmod 6=(((nxB l a).1%6:Nat):Int):=z2k _ rfl;refine z0x tf_31 ?_;refine z7 HB0 ?_;simp only[vW,seval,dd,hr2,hm,c0,c1];refine z7 HB ?_;generalize(nxB l a).1%6=i at*;have e1':=zlY hn;simp only[vW,seval,hx,e1']
  have c1:¬((y%8:Nat):Int)=1:=by omega
  rw[if_neg e1];exact absurd x2 (by have:y%8=y:=Nat.mod_eq_of_lt (by omega);omega)
 ·have dd:¬((d+1:Nat):Int)≤1:=by omega
  have TT:=IH.resolve_left h;rw[if_neg h];have hm:(x:Int).tmod 8=((x%8:Nat):Int):=z2k _ rfl;by_cases e0:x%8=0
  ·have c0:((x%8:Nat):Int)=0:=by omega
   rw[if_pos e0];refine SCalls.out ?_ (z1q (z68 _ _ _));unfold nv at HF ⊢;refine z0x tf_31 ?_;refine z7 HB0 ?_;simp only[vW,seval,dd,hm,c0];exact zd HF
  have c0:¬((x%8:Nat):Int)=0:=by omega
  rw[if_neg e0];by_cases e1:x%8=1
  ·have c1:((x%8:Nat):Int)=1:=by omega
   rw[if_pos e1];refine SCalls.out ?_ (z1q rfl);unfold nv;have hn:=Nat.mod_lt (nxB l a).1 (show 0<6 by omega);have hx:((nxB l a).1:Int).tmod 6=(((nxB l a).1%6:Nat):Int):=z2k _ rfl;refine z0x tf_31 ?_;refine z7 HB0 ?_;simp only[vW,seval,dd,hm,c0,c1];refine z7 HB ?_;generalize(nxB l a).1%6=i at*;have e1':=zlY hn;simp only[vW,seval,hx,e1']
  have c1:¬((x%8:Nat):Int)=1:=by omega
  rw[if_neg e1];by_cases e2:x%8=2
  ·have c2:((x%8:Nat):Int)=2:=by omega
   rw[if_pos e2];have HM:=z3p (g:=g) (c:=c) d hd TT hle z1l [110] (by decide) a h1;rw[show z4y [110]=[1] from rfl]at HM;unfold mkC tv at HM;unfold tv;refine z0x tf_31 ?_;refine z7 HB0 ?_;simp only[vW,seval,dd,hm,c0,c1,c2,zsR,zsJ];exact zd HM
  have c2:¬((x%8:Nat):Int)=2:=by omega
  rw[if_neg e2];by_cases e3:x%8=3
  ·have c3:((x%8:Nat):Int)=3:=by omega
   rw[if_pos e3];have hn:=Nat.mod_lt (nxB l a).1 (show 0<3 by omega);have hx:((nxB l a).1:Int).tmod 3=(((nxB l a).1%3:Nat):Int):=z2k _ rfl;generalize hb:(nxB l a).2=bb at*;unfold tv;refine z0x tf_31 ?_;refine z7 HB0 ?_;simp only[vW,seval,dd,hm,c0,c1,c2,c3];refine z7 HB ?_;generalize(nxB l a).1%3=i at*;have e1':=zqV hn;have HM:=z3p (g:=g) (c:=c) d hd TT hle (cl3.getD i []) [116,110] (by decide) bb h2;rw[show z4y [116,110]=[2,1] from rfl]at HM;unfold mkC tv at HM;simp only[vW,seval,hx,e1',zsK];exact zd HM
  have c3:¬((x%8:Nat):Int)=3:=by omega
  rw[if_neg e3];by_cases e4:x%8=4
  ·have c4:((x%8:Nat):Int)=4:=by omega
   rw[if_pos e4];have HM:=z3p (g:=g) (c:=c) d hd TT hle nIf [110,116,116] (by decide) a h1;rw[show z4y [110,116,116]=[1,2,2] from rfl]at HM;unfold mkC tv at HM;unfold tv;refine z0x tf_31 ?_;refine z7 HB0 ?_;simp only[vW,seval,dd,hm,c0,c1,c2,c3,c4,zoZ,zsL];exact zd HM
  have c4:¬((x%8:Nat):Int)=4:=by omega
  rw[if_neg e4];have HM:=zcQ (g:=g) (c:=c) d hd TT hle [38] 2 (.inr rfl) a h1;unfold mkC tv at HM;unfold tv;refine z0x tf_31 ?_;refine z7 HB0 ?_;simp only[vW,seval,dd,hm,c0,c1,c2,c3,c4,zrs];exact zd HM
theorem zdO(d:Nat)(hd:d≤4)(hl:l.length≤9223372036854775807)(hc:c.fs.length≤1000)(IH:d=0∨z5V g l c d)(a0:Nat)(ha:a0≤l.length):
  zC g 48 [.ptr 1000 0,I 1,I ((d+1:Nat):Int)] [mkC l c a0] (tv (z0l l c.fs (d+1) 1 a0).1) [mkC l c (z0l l c.fs (d+1) 1 a0).2]:=by
 have HB0:=z2T g l c a0 hl ha;have h1:=z3N (l:=l) ha;have k255:=z8N l a0;have wd:IntKind.i64.wrap (((d+1:Nat):Int) - 1)=(d:Int):=wG;have hle:=fun k a h=>z86 (l:=l) c.fs d k a h;unfold z0l;simp only[];generalize(nxB l a0).2=a at*;generalize(nxB l a0).1=x at*;have HF:=z8q g l c a 1 hl hc h1;have HB:=z2T g l c a hl h1;have h2:=z3N h1;have b255:=z8N l a;have HB2:=z2T g l c _ hl h2;have h3:=z3N h2;have HB3:=z2T g l c _ hl h3;have h4:=z3N h3;unfold mkC at HF HB HB0 HB2 HB3 ⊢;rw[if_neg (by decide)];by_cases h:d=0
 ·have dd:((d+1:Nat):Int)≤1:=by omega
  have hr2:(x:Int).tmod 2=((x%2:Nat):Int):=z2k _ rfl;have x2:=Nat.mod_lt x (show 0<2 by omega);rw[if_pos h];generalize x%2=y at*;have hm:(y:Int).tmod 10=((y%10:Nat):Int):=z2k _ rfl;by_cases e0:y%10=0
  ·have c0:((y%10:Nat):Int)=0:=by omega
   rw[if_pos e0];refine SCalls.out ?_ (z1q (z68 _ _ _));unfold nv at HF ⊢;refine z0x tf_31 ?_;refine z7 HB0 ?_;simp only[vW,seval,dd,hr2,hm,c0];exact zd HF
  have c0:¬((y%10:Nat):Int)=0:=by omega
  rw[if_neg e0];by_cases e1:y%10=1
  ·have c1:((y%10:Nat):Int)=1:=by omega
   rw[if_pos e1];refine SCalls.out ?_ (z1q rfl);unfold nv;have hn:=Nat.mod_lt (nxB l (nxB l a).2).1 (show 0<4 by omega);have hx:((nxB l (nxB l a).2).1:Int).tmod 4=(((nxB l (nxB l a).2).1%4:Nat):Int):=z2k _ rfl;have hmu:=zl3 hn;have hw:=zl2 b255 hmu.1 hmu.2;refine z0x tf_31 ?_;refine z7 HB0 ?_;simp only[vW,seval,dd,hr2,hm,c0,c1];refine z8 HB ?_;refine z7 HB2 ?_;generalize(nxB l (nxB l a).2).1%4=i at*;generalize(nxB l a).1=z at*;have e1':=zp0 hn;simp only[vW,seval,hx,e1',hw];rfl
  have c1:¬((y%10:Nat):Int)=1:=by omega
  rw[if_neg e1];exact absurd x2 (by have:y%10=y:=Nat.mod_eq_of_lt (by omega);omega)
 ·have dd:¬((d+1:Nat):Int)≤1:=by omega
  have TT:=IH.resolve_left h;rw[if_neg h];have hm:(x:Int).tmod 10=((x%10:Nat):Int):=z2k _ rfl;by_cases e0:x%10=0
  ·have c0:((x%10:Nat):Int)=0:=by omega
   rw[if_pos e0];refine SCalls.out ?_ (z1q (z68 _ _ _));unfold nv at HF ⊢;refine z0x tf_31 ?_;refine z7 HB0 ?_;simp only[vW,seval,dd,hm,c0];exact zd HF
  have c0:¬((x%10:Nat):Int)=0:=by omega
  rw[if_neg e0];by_cases e1:x%10=1
  ·have c1:((x%10:Nat):Int)=1:=by omega
   rw[if_pos e1];refine SCalls.out ?_ (z1q rfl);unfold nv;have hn:=Nat.mod_lt (nxB l (nxB l a).2).1 (show 0<4 by omega);have hx:((nxB l (nxB l a).2).1:Int).tmod 4=(((nxB l (nxB l a).2).1%4:Nat):Int):=z2k _ rfl;have hmu:=zl3 hn;have hw:=zl2 b255 hmu.1 hmu.2;refine z0x tf_31 ?_;refine z7 HB0 ?_;simp only[vW,seval,dd,hm,c0,c1];refine z8 HB ?_;refine z7 HB2 ?_;generalize(nxB l (nxB l a).2).1%4=i at*;generalize(nxB l a).1=z at*;have e1':=zp0 hn;simp only[vW,seval,hx,e1',hw];rfl
  have c1:¬((x%10:Nat):Int)=1:=by omega
  rw[if_neg e1];by_cases e2:x%10=2
  ·have c2:((x%10:Nat):Int)=2:=by omega
   rw[if_pos e2];have HM:=TT 1 a (.inl rfl) h1;unfold mkC tv at HM;unfold tv;refine z0x tf_31 ?_;refine z7 HB0 ?_;simp only[vW,seval,dd,hm,c0,c1,c2,wd];refine z7 HM ?_;simp only[vW,seval,zpm,zrt]
  have c2:¬((x%10:Nat):Int)=2:=by omega
  rw[if_neg e2];by_cases e3:x%10=3
  ·have c3:((x%10:Nat):Int)=3:=by omega
   rw[if_pos e3];have hn:=Nat.mod_lt (nxB l a).1 (show 0<2 by omega);have hx:((nxB l a).1:Int).tmod 2=(((nxB l a).1%2:Nat):Int):=z2k _ rfl;generalize hb:(nxB l a).2=bb at*;unfold tv;refine z0x tf_31 ?_;refine z7 HB0 ?_;simp only[vW,seval,dd,hm,c0,c1,c2,c3];refine z7 HB ?_;generalize(nxB l a).1%2=i at*;have e1':=zqU hn;have HM:=z3p (g:=g) (c:=c) d hd TT hle (cl2.getD i []) [116] (by decide) bb h2;rw[show z4y [116]=[2] from rfl]at HM;unfold mkC tv at HM;simp only[vW,seval,hx,e1',zsM];exact zd HM
  have c3:¬((x%10:Nat):Int)=3:=by omega
  rw[if_neg e3];by_cases e4:x%10=4
  ·have c4:((x%10:Nat):Int)=4:=by omega
   rw[if_pos e4];have HM:=z3p (g:=g) (c:=c) d hd TT hle z2l [116,116] (by decide) a h1;rw[show z4y [116,116]=[2,2] from rfl]at HM;unfold mkC tv at HM;unfold tv;refine z0x tf_31 ?_;refine z7 HB0 ?_;simp only[vW,seval,dd,hm,c0,c1,c2,c3,c4,zsQ,zsN];exact zd HM
  have c4:¬((x%10:Nat):Int)=4:=by omega
  rw[if_neg e4];by_cases e5:x%10=5
  ·have c5:((x%10:Nat):Int)=5:=by omega
   rw[if_pos e5];have hn:=Nat.mod_lt (nxB l a).1 (show 0<2 by omega);have hx:((nxB l a).1:Int).tmod 2=(((nxB l a).1%2:Nat):Int):=z2k _ rfl;generalize hb:(nxB l a).2=bb at*;unfold tv;refine z0x tf_31 ?_;refine z7 HB0 ?_;simp only[vW,seval,dd,hm,c0,c1,c2,c3,c4,c5];refine z7 HB ?_;generalize(nxB l a).1%2=i at*;have e1':=zpy hn;have HM:=z3p (g:=g) (c:=c) d hd TT hle (clMM.getD i []) [110,110] (by decide) bb h2;rw[show z4y [110,110]=[1,1] from rfl]at HM;unfold mkC tv at HM;simp only[vW,seval,hx,e1',zsO];exact zd HM
  have c5:¬((x%10:Nat):Int)=5:=by omega
  rw[if_neg e5];by_cases e6:x%10=6
  ·have c6:((x%10:Nat):Int)=6:=by omega
   rw[if_pos e6];have HM:=z3p (g:=g) (c:=c) d hd TT hle nIf [110,110,110] (by decide) a h1;rw[show z4y [110,110,110]=[1,1,1] from rfl]at HM;unfold mkC tv at HM;unfold tv;refine z0x tf_31 ?_;refine z7 HB0 ?_;simp only[vW,seval,dd,hm,c0,c1,c2,c3,c4,c5,c6,zoZ,zsP];exact zd HM
  have c6:¬((x%10:Nat):Int)=6:=by omega
  rw[if_neg e6];by_cases e7:x%10=7
  ·have c7:((x%10:Nat):Int)=7:=by omega
   rw[if_pos e7];have hn:=Nat.mod_lt (nxB l a).1 (show 0<6 by omega);have hx:((nxB l a).1:Int).tmod 6=(((nxB l a).1%6:Nat):Int):=z2k _ rfl;have hn2:=Nat.mod_lt (nxB l (nxB l a).2).1 (show 0<2 by omega);have hx2:((nxB l (nxB l a).2).1:Int).tmod 2=(((nxB l (nxB l a).2).1%2:Nat):Int):=z2k _ rfl;unfold tv;refine z0x tf_31 ?_;refine z7 HB0 ?_;simp only[vW,seval,dd,hm,c0,c1,c2,c3,c4,c5,c6,c7];refine z7 HB ?_;generalize(nxB l a).1%6=i at*;have e1':=zpA hn;simp only[vW,seval,hx,e1'];refine z7 HB2 ?_;generalize(nxB l (nxB l a).2).1%2=u at*;have wu:IntKind.i64.wrap (1+(u:Int))=1+(u:Int):=wrap64 (by omega) (by omega);have HM:=zcQ (g:=g) (c:=c) d hd TT hle (cmpM.getD i []) (1+(u:Int)) (by omega) _ h3;unfold mkC tv at HM;simp only[vW,seval,hx2,wu];exact zd HM
  have c7:¬((x%10:Nat):Int)=7:=by omega
  rw[if_neg e7];have hn:=Nat.mod_lt (nxB l a).1 (show 0<5 by omega);have hx:((nxB l a).1:Int).tmod 5=(((nxB l a).1%5:Nat):Int):=z2k _ rfl;unfold tv;refine z0x tf_31 ?_;refine z7 HB0 ?_;simp only[vW,seval,dd,hm,c0,c1,c2,c3,c4,c5,c6,c7];refine z7 HB ?_;generalize(nxB l a).1%5=i at*;have e1':=zqs hn;have HM:=zcQ (g:=g) (c:=c) d hd TT hle (sumM.getD i []) 1 (.inl rfl) _ h2;unfold mkC tv at HM;simp only[vW,seval,hx,e1'];exact zd HM
theorem zb5(hl:l.length≤9223372036854775807)(hc:c.fs.length≤1000):∀d,d≤4→z5V g l c (d+1)
 |0,_=>fun kind a hk ha=>by
  rcases hk with rfl|rfl
  ·exact zdO 0 (by omega) hl hc (.inl rfl) a ha
  ·exact zcb 0 (by omega) hl hc (.inl rfl) a ha
 |d+1,hd=>fun kind a hk ha=>by
  rcases hk with rfl|rfl
  ·exact zdO (d+1) (by omega) hl hc (.inr (zb5 hl hc d (by omega))) a ha
  ·exact zcb (d+1) (by omega) hl hc (.inr (zb5 hl hc d (by omega))) a ha
end
end
section
open Go.Sh.Cd6
theorem ziI(m:Nat)(l:zB)(c:Cls)(kind:Int)(hk:kind=1∨kind=2)(hl:l.length≤9223372036854775807)(hc:c.fs.length≤1000)(hok:okE 5 (z0l l c.fs 4 kind 0).1=true):
  zC (gl0 m) 21 [.pv (.sl 1 (byR l)),clT c,I kind] [] (tv (z0s l c.fs kind)) []:=by
 have HT:=zb5 (g:=gl0 m) (c:=c) hl hc 3 (by omega) kind 0 hk (Nat.zero_le _);have hle:=z86 (l:=l) c.fs 4 kind 0 (Nat.zero_le _);have HF:=z8q (gl0 m) l c _ kind hl hc hle;have HR:=z6i (gl0 m) (z0l l c.fs 4 kind 0).1 (z8O 5 _ hok);unfold z0s;unfold mkC at HT HF;cases hr:z0b (z0l l c.fs 4 kind 0).1
 ·rw[hr]at HR;rw[if_neg (by simp)];refine SCalls.out ?_ (z1q (z68 _ _ _));unfold B clT tv nv at*;refine z0w tf_122 ?_;refine z8 HT ?_;refine z8 HR ?_;exact zd HF
 ·rw[hr]at HR;rw[if_pos rfl];unfold B clT tv at*;refine z0w tf_122 ?_;refine z8 HT ?_;exact zd HR
end
section
open Go.Sh.Cd5
theorem zgT(m:Nat){e:V}(hr:z0b e=true)(hs:ESmall e):zC (glT m) 22 [tv e] [] (.tuple [S (str (zy 8 e)),I 0]) []:=by
 have h:=znP m e hs;unfold prV at h
 rwa [if_pos hr]at h
end
section
open Go.Sh.Cd7 Go.Sh.Cd10
theorem zkX(m:Nat)(x:Raw)(l:zB){kind:Int}(hk:kind=1∨kind=2)(hl:l.length≤9223372036854775807):
  zC (glE m) 21 [.pv (.sl 1 (byR l)),clT (zn x),I kind] [] (tv (z0s l (zn x).fs kind)) []:=
 z9T (ziI m l _ kind hk hl (by have:=(z2D x).len;omega) (z9K 5 (by omega) (zdt (z2D x) (l:=l) 3 kind 0 hk).1))
theorem zoj(x:Raw)(l:zB)(kind:Int){rs:List RawH}{i:Nat}{r:RawH}(h:rs[i]?=some r):(rs.take (i+1)).foldl z3d (tl0 x l kind)=z3d ((rs.take i).foldl z3d (tl0 x l kind)) r:=by
 rw[List.take_add_one,h];simp only[Option.toList_some,List.foldl_append,List.foldl_cons,List.foldl_nil]
theorem zpq(b:Bool):∃kind:Int,(kind=1∨kind=2)∧b=decide (kind=2):=by
 cases b
 ·exact⟨1,.inl rfl,rfl⟩
 ·exact⟨2,.inr rfl,rfl⟩
theorem zly{l:Ln}(h:z09 l=true):RightS [l]:=⟨by simp,fun x hx=>by simp at hx;subst hx;exact h,fun i j a b hi hj _=>by
 have h1:=(gJ hi).1;have h2:=(gJ hj).1;simp at h1 h2;omega⟩
theorem zdZ{α:Type}{l:List α}{j:Nat}{x:α}(h:l[j]?=some x):(l.take (j+1)).drop j=[x]:=by
 obtain⟨hl,rfl⟩:=gJ h;rw[List.drop_take,Nat.add_sub_cancel_left,List.drop_eq_getElem_cons hl];rfl
theorem zed(m:Nat)(x:Raw)(l:zB)(b:Bool)(rs:List RawH)(vals:List Int)(hx:RawOk x)(hl:l.length≤9223372036854775807)(hrs:∀r∈rs,RawHOk r)(hrl:rs.length≤9223372036854775807)(hv:vals.length≤9223372036854775807):
  zC (glE m) 6 [z8V x,.pv (.sl 1 (byR l)),.pv (.v (.bool b)),.pv (.sl 8 (rhR rs)),.pv (.sl 1 (iiR vals))] [] (B true) []:=by
 have HX:=zmq m;have HC:=za6 (glE m) x hx;obtain⟨kind,hk,rfl⟩:=zpq b;have HE:=zkX m x l hk hl;have hg:=z2D x;have hr:=(z4r hg l hk).1;have hs:=zg0 hr;have HP:=zeu (zgT m hr hs);have hTA:=fun h2 rs' n hn=>zgj (x:=x) (l:=l) hk h2 rs' (n:=n) hn;have hTE:=fun h2=>zol (x:=x) (l:=l) hk h2 rs (zl1 hg.right vals (many:=3) (by decide));have hfit:=zl1 hg.right vals (many:=3) (by decide);have HV:=zjZ (glE m) (zn x) vals 3 (fun _ h=>zc1 hg.right h) (by have:=hg.len;omega) hv (by decide);have HW:=zd9 m (zn x) _ (z2j (zn x).fs vals 3) (zpN hg) hs (zot hg vals (by decide)) (by have:=hg.len;rw[z4B];omega);rw[zdq hg l hk hfit.chk]at HW;have hz:∀ln:Ln,ln.c=zn x→zq ln 0=(zn x,0):=fun ln h=>by rw[z28];unfold z1R;rw[h,hg.right];rfl
 have hst:=fun(i:Nat) (r:RawH) h=>zoj x l kind (rs:=rs) (i:=i) (r:=r) h;have ht4:∀i:Nat,(i=4∨rs.length≤i∧i≤4)→(rs.take i).foldl z3d (tl0 x l kind)=z9W x l kind rs:=fun i hi=>by
  unfold z9W;rcases hi with rfl|⟨h1,h2⟩
  ·rfl
  ·rw[List.take_of_length_le h1,List.take_of_length_le (by omega)]
 have h00:(rs.take 0).foldl z3d (tl0 x l kind)=⟨zn x,[qnC kind (zy 8 (z0s l (zn x).fs kind))]⟩:=rfl;generalize z9W x l kind rs=tl at*;generalize tl0 x l kind=t0 at*;generalize z1g (zn x).fs (z2j (zn x).fs vals 3) 8 (z0s l (zn x).fs kind)=want at*;generalize z2j (zn x).fs vals 3=v at*;generalize zy 8 (z0s l (zn x).fs kind)=s at*;generalize z0s l (zn x).fs kind=e at*;generalize zn x=c at*;unfold z8V clT zej B at*;unfold tv at HE HP HW;refine za tf_128 ?_;by_cases h2:200<s.length
 ·have d2:(200:Int)<(s.length:Int):=by omega
  rcases hk with rfl|rfl
  all_goals(
   simp only[vW,seval];refine z8 HX ?_;refine z8 HC ?_;refine z8 HE ?_;refine z8 HP ?_;simp only[vW,seval,d2,false_imp_iff,and_true,true_and,forall_const])
 have d2:¬(200:Int)<(s.length:Int):=by omega
 have h2':s.length≤200:=by omega
 replace hTA:=fun rs' n hn=>hTA h2' rs' n hn
 have hTE:=hTE h2';have hT4:=(hTA rs 4 (Nat.le_refl _))
 rw[ht4 4 (.inl rfl)]at hT4;obtain⟨hT4,hT5⟩:=hT4;have hlo:=znc m hT4.g;have hR1:=zly hT4.g.r;have HL:=zcD m [tl] (by simp) (fun y hy=>by simp at hy;subst hy;exact⟨(z2g hlo.c).1,hlo.h⟩) (by rw[hR1.check]) (k:=0) rfl;have hz:=hz tl hT4.c;have hfit0:FitC (zq tl 0).1 v:=by rw[hz];exact hfit
 have C1:=zez hlo HL (fr:=0) (tt:=tl.hs.length) (Nat.zero_le _) (Nat.le_refl _) v hfit0;rw[Nat.sub_zero]at C1;have A1:=zin hlo HL (v:=tl.hs.length) (Nat.le_refl _);have hfe:=z7w hT4.g.r hfit0 tl.hs.length (by omega);rw[Nat.zero_add]at hfe;obtain⟨j,g,e1,e3,e2⟩:=hTE;obtain⟨f1,f2⟩:=zkD hfe.r e1;have HF:=z4Q (glE m) (zq tl tl.hs.length).1 g.n (by have:=(z2g hfe.r).2;omega);rw[f1,e3]at HF;have hjl:=(gJ e2).1;have d4:(j:Int)<((z3T tl 0 v tl.hs.length).length:Int):=by omega
 have HS:=zap (glE m) [want] (fun y hy=>by simp at hy;subst hy;exact(zcv hfe _ (gM e2)).1) (by simp);have w9:=wS j;have hrow:List.drop j (List.take (j+1) (V.rows (z3T tl 0 v tl.hs.length)))=V.rows [want]:=by
  rw[z0j,z0j,←List.map_take,←List.map_drop,zdZ e2]
 generalize(zq tl tl.hs.length).1=d at*;generalize z3T tl 0 v tl.hs.length=u at*;have eS:z3W [tl]=[[.v (.string (str c.n)),.sl 4 (flR c.fs),.sl 8 (z2b tl.hs)]]:=by
  unfold z3W lnR;rw[List.map_cons,List.map_nil,hT4.c]
 have eW:V.rows [want]=[[.v (.int .i64 want.k),.v (.int .i64 want.n),.v (.string (str want.s)),.sl 4 (V.rows want.l)]]:=by
  rw[z0j,List.map_cons,List.map_nil,z1b]
 have eq:(⟨#[113,117,105,116,101,95,110,101,119]⟩:ByteArray)=str qn:=rfl;have hrw:=hrow.trans eW;rw[eW]at HS;unfold scT at C1 A1;rw[eS]at C1 A1;unfold clT B at*;rcases hk with rfl|rfl
 all_goals(
  simp only[vW,seval];refine z8 HX ?_;refine z8 HC ?_;refine z8 HE ?_;refine z8 HP ?_;simp only[vW,seval,d2,false_imp_iff,and_true,true_and,forall_const];refine zp (σ:={x':Nat×Ln // x'.1≤rs.length∧x'.1≤4∧x'.2=(rs.take x'.1).foldl z3d t0}) (fun x'=>⟨[(3,.pv (.sl 8 (rhR rs))),(4,.pv (.sl 1 (iiR vals))),(11,.pv (.v (.bool true))),(12,.ptr 12 0),(14,.ptr 14 0),(17,.ptr 17 0),(18,I (x'.1.1:Int))],[(5,[I x.n,.pv (.sl 4 (rfR x.fs))]),(12,[S (str c.n),.pv (.sl 4 (flR c.fs))]),(14,[I e.k,I e.n,S (str e.s),.pv (.sl 4 (V.rows e.l))]),(17,[S (str c.n),.pv (.sl 4 (flR c.fs)),.own 61 8 (z2b x'.1.2.hs)])],[(61,(51,8,x'.1.2.hs.length))],[]⟩) (fun x'=>4-x'.1.1) ⟨(0,⟨c,[qnC _ s]⟩),Nat.zero_le _,Nat.zero_le _,h00.symm⟩ ?_ ?_
  ·exact z0M rfl
  rintro⟨⟨i,ln⟩,hi,hi4,hln⟩;have hi:i≤rs.length:=hi;have hi4:i≤4:=hi4;have hln:ln=(rs.take i).foldl z3d t0:=hln;obtain⟨hT,hTl⟩:=hTA rs i hi4;rw[←hln]at hT hTl;by_cases hlt:i<rs.length∧i<4
  ·obtain⟨hlt,hl4⟩:=hlt;have d1:(i:Int)<(rs.length:Int):=by omega
   have d3:(i:Int)<4:=by omega
   obtain⟨r,er⟩:∃r,rs[i]?=some r:=⟨_,gE hlt⟩
   have w1:=wS i;have HN:=zl6 (glE m) ln hT.g;have hrc:ze (z0N ln)=true:=z2P (z0Z hT.g.r (Nat.le_refl _));have HG:=zmI (glE m) r (z0N ln) (hrs r (gM er)) hrc hT.g.n;have hnx:=hst i r er;rw[←hln]at hnx;unfold z3d at hnx;have hcc:=hT.c;generalize z1T r (z0N ln)=h at*;generalize z0N ln=c1 at*;unfold lnC clT at HN;unfold zjp clT chT B at HG;rw[hcc]at HN;simp only[vW,seval,d1,d3,zp9,zsX,er,zjx];refine z7 HN ?_;refine z8 HG ?_;cases ho:okV c1 h
   ·rw[ho]at hnx;simp only[Bool.false_and,Bool.false_eq_true,if_false]at hnx;simp only[vW,seval,w1];exact zc ⟨(i+1,ln),hlt,hl4,hnx.symm⟩ (by show 4-(i+1)<4-i;omega) lwA
   cases hq:(h.f==qn)
   ·rw[ho,hq]at hnx;simp only[Bool.not_false,Bool.and_true,if_true]at hnx;simp only[vW,seval,w1,z1h,eq,hq,false_imp_iff,and_true,true_and,forall_const];refine⟨⟨by omega,by unfold maxLen;omega⟩,zc ⟨(i+1,⟨ln.c,ln.hs++[h]⟩),hlt,hl4,hnx.symm⟩ (by show 4-(i+1)<4-i;omega) ?_⟩;simp only[zkd,List.length_append,List.length_cons,List.length_nil,chR];exact lwA
   ·rw[ho,hq]at hnx;simp only[Bool.not_true,Bool.and_false,Bool.false_eq_true,if_false]at hnx;simp only[vW,seval,w1,eq,hq,false_imp_iff,and_true,true_and,forall_const];exact zc ⟨(i+1,ln),hlt,hl4,hnx.symm⟩ (by show 4-(i+1)<4-i;omega) lwA
  ·have hln:=hln.trans (ht4 i (by omega));subst hln;have hcase:(¬(i:Int)<(rs.length:Int)∧True)∨((i:Int)<(rs.length:Int)∧¬(i:Int)<4):=by
    by_cases h:i<rs.length
    ·exact .inr ⟨by omega,by omega⟩
    ·exact .inl ⟨by omega,trivial⟩
   rcases hcase with⟨d1,d3⟩|⟨d1,d3⟩
   all_goals(
    simp only[vW,seval,d1,d3,zp9];refine z8 HV ?_;refine z7 HW ?_;simp only[vW,seval,z1h];refine z7 C1 ?_;simp only[vW,seval,z1h];refine z8 A1 ?_;refine z8 HF ?_;refine⟨fun _=> ?_,fun h=>absurd d4 h⟩;simp only[w9,Int.toNat_natCast,hrw];refine⟨by omega,⟨by omega,by omega⟩,?_⟩;exact zd HS))
end
end Go.Proofs.YtbkgnekfigknhaaGreatDoor
end
