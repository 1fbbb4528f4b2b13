/- Merged texts: Yc3 Op8 WrapE WrapG Ln5 Lp1 Ya9 Zn1 Cd11. No statement of the program is proved here. -/
import Derived.Test.YtpmlapgbmgbilaaGreatDoorQ37
import Derived.Laws.IdiomArrays
set_option linter.unusedSimpArgs false
set_option linter.unusedVariables false
set_option maxRecDepth 100000
set_option maxHeartbeats 8000000
section
namespace Go.Proofs.YtpmlapgbmgbilaaGreatDoor
open Go Go.RowKit Go.Mor Go.Sh Go.Sh.Cd1 Go.Sh.Cd7 Go.Sh.Cd10
theorem zfH(g:Sh.Glob)(ls:List Ln)(n:zB)(hl:ls.length≤1000):zC g 26 [scT ls,S (str n)] [] (.tuple [I ((z0y ls n).1:Int),B (z0y ls n).2]) []:=by
 refine za tf_157 ?_;obtain⟨R,hR⟩:∃R,z0y ls n=R:=⟨_,rfl⟩
 rw[hR];unfold scT B;simp only[vW,seval];refine zk (σ:={i:Nat // i≤ls.length∧∀(j:Nat) x,j<i→ls[j]?=some x→(x.c.n==n)=false}) (fun i=>⟨[(1,S (str n)),(2,.ptr 2 0),(6,I (i.1:Int))],[(2,[.pv (.sl 3 (z0s ls))])],[],[]⟩) (fun i=>ls.length-i.1) ⟨0,Nat.zero_le _,fun j x hj=>by omega⟩ ?_ ?_
 ·exact lwA
 rintro⟨i,hi,hno⟩;by_cases hlt:i<ls.length
 ·have d1:(i:Int)<(ls.length:Int):=by omega
  obtain⟨x,ex⟩:∃x,ls[i]?=some x:=⟨_,gE hlt⟩
  have w1:=wS i;cases hp:(x.c.n==n)
  ·simp only[vW,seval,d1,z0k,z2G,ex,lnR,hp,w1];refine zc ⟨i+1,by omega,fun j y hj hy=> ?_⟩ (by show ls.length-(i+1)<ls.length-i;omega) lwA;by_cases hji:j=i
   ·subst hji;rw[ex]at hy;cases hy;exact hp
   ·exact hno j y (by omega) hy
  ·simp only[vW,seval,d1,z0k,z2G,ex,lnR,hp,w1];rw[←hR,zbx ex hp hno]
 ·have d1:¬(i:Int)<(ls.length:Int):=by omega
  simp only[vW,seval,d1,z0k];rw[←hR,zcb (fun x hx=>by
   obtain⟨j,hj⟩:=List.getElem?_of_mem hx;exact hno j x (by have:=(gJ hj).1;omega) hj)]
  rfl
def zie(x:RawL):List PV:=[.v (.int .i64 x.c.n),.sl 4 (rfR x.c.fs),.sl 8 (rhR x.hs)]
def rlR(l:List RawL):List (List PV):=l.map zie
theorem zqx(l:List RawL)(k:Nat):(rlR l)[k]?=(l[k]?).map zie:=by unfold rlR;rw[List.getElem?_map]
theorem zb7(l:List RawL):(rlR l).length=l.length:=by unfold rlR;rw[List.length_map]
theorem ziE(l:List RawL){i:Nat}{x:RawL}(h:l[i]?=some x):(l.take (i+1)).foldl z2U []=z2U ((l.take i).foldl z2U []) x:=by
 rw[List.take_add_one,h];simp only[Option.toList_some,List.foldl_append,List.foldl_cons,List.foldl_nil]
theorem zjI(l:List Ln)(x:Ln):z0s (l++[x])=z0s l++[lnR x]:=by unfold z0s;rw[List.map_append];rfl
theorem zpZ{e e':List (List PV)}(h:PWk (.sl 3 e) (.sl 3 e')):Wk (.agg [.pv (.sl 3 e)]) (.agg [.pv (.sl 3 e')]):=z5T rfl fun j a b ha hb=>by
 match j with
 |0=>cases ha;cases hb;exact ziB h
 |j+1=>cases ha
theorem zoC:Wk (.agg [I 0,zr]) (z5K ⟨0,[]⟩):=z5T rfl fun j a b ha hb=>by
 match j with
 |0=>cases ha;cases hb;exact .refl _
 |1=>cases ha;cases hb;exact z2B 4
 |j+2=>cases ha
theorem ziR(g:Sh.Glob):zC g 12 [.agg [I 0,zr]] [] (clT (z0n ⟨0,[]⟩)) []:=
 (z4J g ⟨0,[]⟩ ⟨⟨by decide,by decide⟩,fun r hr=>(by cases hr),by decide⟩).inp rfl fun j c d hc hd=>by
  match j with
  |0=>cases hc;cases hd;exact zoC
  |j+1=>cases hc
theorem zfN(g:Sh.Glob)(l:List RawL)(hx:∀x∈l,RawLOk x)(hlen:l.length≤9223372036854775807):zC g 6 [.pv (.sl 3 (rlR l))] [] (scT (z3O l)) []:=by
 have H0:=ziR g
 suffices h:zC g 6 [.pv (.sl 3 (rlR l))] [] (.agg [.pv (.sl 3 (if(l.take 4).foldl z2U []=[] then [z6n (z0n ⟨0,[]⟩)] else z0s ((l.take 4).foldl z2U [])))]) [] by
  unfold z3O;split
  ·rename_i he;rw[if_pos he]at h;exact h.out (zpZ (zeA [] _))
  ·rename_i he;rw[if_neg he]at h;exact h
 refine z2a tf_120 ?_;simp only[vW,seval];refine zk (σ:={x':Nat×List Ln // x'.1≤l.length∧x'.1≤4∧x'.2=(l.take x'.1).foldl z2U []}) (fun x'=>⟨[(0,.pv (.sl 3 (rlR l))),(2,.ptr 2 0),(3,.ptr 3 0),(4,I (x'.1.1:Int))],[(2,[.pv (.v (.slice none 0 0))]),(3,[.own 3000 3 (z0s x'.1.2)])],[(3000,(46,3,x'.1.2.length))],[]⟩) (fun x'=>4-x'.1.1) ⟨(0,[]),Nat.zero_le _,Nat.zero_le _,rfl⟩ ?_ ?_
 ·refine ES.Lw.trans ?_ (z5y (x:=3) (j:=0) (d:=3000) (e:=46) (W:=3) (.inr (by decide)) (by decide) rfl (by simp only[vcA,seval]) rfl);exact z18 rfl
 rintro⟨⟨i,s⟩,hi,hi4,hs⟩;have hi:i≤l.length:=hi;have hi4:i≤4:=hi4;have hs:s=(l.take i).foldl z2U []:=hs;have htl:=List.length_take_le i l;obtain⟨hg,hgl⟩:=z7a (l.take i) [] zch (by simp;omega);rw[←hs]at hg hgl;simp only[List.length_nil,Nat.zero_add]at hgl;by_cases hlt:i<l.length∧i<4
 ·obtain⟨hlt,hl4⟩:=hlt;have d1:(i:Int)<(l.length:Int):=by omega
  have d2:(i:Int)<4:=by omega
  obtain⟨x,ex⟩:∃r,l[i]?=some r:=⟨_,gE hlt⟩
  have w1:=wS i;have HL:=zjG g x (hx x (gM ex));have HF:=zfH g s (z2w x).c.n (by omega);have hst:=ziE l ex;rw[←hs]at hst;unfold z2U at hst;generalize z2w x=y at*;generalize z0y s y.c.n=R at*;obtain⟨p,t⟩:=R;unfold rlC at HL;unfold lnC at HL;unfold scT B at HF;simp only[vW,seval,d1,d2,zb7,zqx,ex,zie];refine z8 HL ?_;refine z8 HF ?_;cases t
  ·simp only[Bool.false_eq_true,if_false]at hst;simp only[vW,seval,w1,z0k];refine⟨⟨by omega,by unfold maxLen;omega⟩,zc ⟨(i+1,s++[y]),hlt,hl4,hst.symm⟩ (by show 4-(i+1)<4-i;omega) ?_⟩;simp only[zjI,List.length_append,List.length_cons,List.length_nil,lnR];exact lwA
  ·simp only[if_true]at hst;simp only[vW,seval,w1];exact zc ⟨(i+1,s),hlt,hl4,hst.symm⟩ (by show 4-(i+1)<4-i;omega) lwA
 ·have he:(l.take 4).foldl z2U []=s:=by
   rw[hs];by_cases h4:i=4
   ·rw[h4]
   ·rw[List.take_of_length_le (by omega),List.take_of_length_le (by omega)]
  rw[he];have hdd:((i:Int)<(l.length:Int)∧¬(i:Int)<4)∨¬(i:Int)<(l.length:Int):=by omega
  unfold clT zr at H0;by_cases h0:s=[]
  ·rw[if_pos h0];subst h0;rcases hdd with⟨d1,d2⟩|d1
   ·simp only[vW,seval,d1,d2,zb7,z0k];refine z8 H0 ?_;rfl
   ·simp only[vW,seval,d1,zb7,z0k];refine z8 H0 ?_;rfl
  ·rw[if_neg h0];have d3:¬(s.length:Int)=0:=by have:=List.length_pos_iff.2 h0;omega
   rcases hdd with⟨d1,d2⟩|d1
   ·simp only[vW,seval,d1,d2,d3,zb7,z0k]
   ·simp only[vW,seval,d1,d3,zb7,z0k]
end Go.Proofs.YtpmlapgbmgbilaaGreatDoor
end

section
namespace Go.Proofs.YtpmlapgbmgbilaaGreatDoor
open Go.ChangeShapes Go.WideShapes Go.ChangeAt Go.RowKit Go.Lib Go.Mor Go.Deep Go.Joins
open Go.Sh (RelT RelV TV PV SCalls Env MSim z0p zA z1Y Low)
open Go.Proofs.YtpmlapgbmgbilaaGreatDoor.OpR
section
variable{H:Type}{enc:TypeId×Value→H}
theorem zcq{α:Type}(R:α→List PV)(Q:α→Prop){t e:TypeId}{Wd:Nat}(ht:Tryz.prog.underlying t=some (.slice e))(hC:Tryz.prog.cellsOf e=Wd)(hW:0<Wd)(hR:∀x,(R x).length=Wd)
  {W:World} {base:Nat} {spare:Nat→Bool} {held:Bool} {fuel:Nat} {c:Value} {y:DataW H×List MemPlace}
  (hel:∀n cs y,cs.length=Wd→DataW.trod enc Tryz.prog W base spare held n e cs=some y→∃x:α,Q x∧∀(j:Nat) q v,(R x)[j]?=some q→cs[j]?=some v→RelV W (z1i W).K q v∧Go.Sh.one v)
  (h:DataW.trod enc Tryz.prog W base spare held fuel t [c]=some y):∃l:List α,(∀x∈l,Q x)∧l.length≤9223372036854775807∧RelV W (z1i W).K (.sl Wd (l.map R)) c:=by
 rcases open_slice ht h with h0|⟨a,len,cap,m,n,D,Pl,hcs,hb,hl,hm,hmm,hx,hi⟩
 ·obtain rfl:c=.slice none 0 0:=by simpa using h0.1
  exact⟨[],by simp,by simp,.sl Wd [] 0 0 0 none (fun _ _=>undef) (by simp) (by simp) (by simp) (by simp) (by simp) (by simp)⟩
 obtain rfl:c=.slice (some a) len cap:=by simpa using hcs
 rw[hC]at hi;have key:∀i,i<len→∃x:α,Q x∧a=⟨a.block,a.off,none⟩∧∀(j:Nat) q,(R x)[j]?=some q→∃v,W.cell? ⟨a.block,a.off+i*Wd+j,none⟩=some v∧RelV W (z1i W).K q v∧Go.Sh.one v:=by
  intro i hlt;obtain⟨cs',hc,ht'⟩:=hi i (by rw[hmm];split<;>omega);obtain⟨_,hcl,hat⟩:=World.cells?_some hc;obtain⟨cs0,hc0,_⟩:=hi 0 (by rw[hmm];split<;>omega);obtain⟨_,hcl0,hat0⟩:=World.cells?_some hc0;have h00:=hat0 0 hW;rw[gE (by omega)]at h00;have ha:a=⟨a.block,a.off,none⟩:=(z6R (k:=0) (by simpa [Addr.add]using h00)).1;have hadd:∀k,a.add k=⟨a.block,a.off+k,none⟩:=fun k=>(z6R (k:=k) (by simpa [Addr.add]using h00)).2;obtain⟨x,hq,hrel⟩:=hel n cs' _ hcl ht';refine⟨x,hq,ha,fun j q hj=> ?_⟩;have hjl:j<Wd:=by have:=(gJ hj).1;rwa [hR]at this
  have hcell:=hat j hjl;have hv:cs'[j]?=some (cs'[j]'(by omega)):=gE (by omega);obtain⟨h1,h2⟩:=hrel j q _ hj hv;refine⟨_,?_,h1,h2⟩;rw[hv,Go.Deep.add_add,hadd]at hcell;rw[←Nat.add_assoc]at hcell;exact hcell
 obtain⟨l,hlen,hq⟩:=zgj key;refine⟨l,fun r hr=> ?_,by unfold maxLen at hm;omega,?_⟩
 ·obtain⟨i,hi⟩:=List.getElem?_of_mem hr;exact(hq i r hi).1
 have hL:(l.map R).length=len:=by rw[List.length_map,hlen]
 rw[←hL];have cell:∀(i j:Nat) cs q,(l.map R)[i]?=some cs→cs[j]?=some q→∃v,W.cell? ⟨a.block,a.off+i*Wd+j,none⟩=some v∧RelV W (z1i W).K q v∧Go.Sh.one v:=by
  intro i j cs q h1 h2;rw[List.getElem?_map,Option.map_eq_some_iff]at h1;obtain⟨r,hr,rfl⟩:=h1;exact(hq i r hr).2.2 j q h2
 refine .sl Wd (l.map R) a.block a.off cap (some a) (fun i j=>(W.cell? ⟨a.block,a.off+i*Wd+j,none⟩).getD undef) (fun hne=> ?_) (by omega) hm (fun cs hcs=> ?_) (fun i j cs q h1 h2=> ?_) (fun i j cs q h1 h2=> ?_)
 ·obtain⟨r,hr⟩:∃r,l[0]?=some r:=by
   cases l with
   |nil=>exact absurd rfl hne
   |cons r q=>exact⟨r,rfl⟩
  rw[(hq 0 r hr).2.1]
 ·obtain⟨r,_,rfl⟩:=List.mem_map.1 hcs;exact hR r
 ·obtain⟨u,hu,_,ho⟩:=cell i j cs q h1 h2;rw[hu];exact⟨z0S (a:=⟨a.block,a.off+i*Wd+j,none⟩) hu,rfl,ho⟩
 ·obtain⟨u,hu,hr,ho⟩:=cell i j cs q h1 h2;rw[hu];exact hr
theorem z3d{W:World}{K:Nat→Nat→Prop}(x:Value)(h:Go.Sh.one x):RelV W K (.v x) x∧Go.Sh.one x:=⟨.v x,h⟩
theorem zlZ{W:World}{base:Nat}{spare:Nat→Bool}{held:Bool}{fuel:Nat}{c:Value}{y:DataW H×List MemPlace}(h:DataW.trod enc Tryz.prog W base spare held fuel 79 [c]=some y):
  ∃l:List RawH,(∀x∈l,RawHOk x)∧l.length≤9223372036854775807∧RelV W (z1i W).K (.sl 8 (rhR l)) c:=by
 refine zcq zi7 RawHOk Tryz.underlying79 (by kernel_rfl) (by decide) (fun _=>rfl) (fun n cs y hl hf=> ?_) h;obtain⟨c0,c1,c2,c3,c4,c5,c6,c7,rfl⟩:=zne hl;obtain⟨xs,n',_,_,hlen,hxl,hf⟩:=DataW.trod_struct Tryz.underlying29 hf;obtain⟨x0,x1,x2,x3,x4,x5,x6,rfl⟩:=znd hxl;have k0:Tryz.prog.cellsOf 3=1:=by kernel_rfl
 have k1:Tryz.prog.cellsOf 27=2:=by kernel_rfl
 have h0:DataW.trod enc Tryz.prog W base spare held n' 3 [c0]=some x0:=by have:=hf 0 _ rfl;simpa [k0,Value.cells]using this
 have h1:DataW.trod enc Tryz.prog W base spare held n' 3 [c1]=some x1:=by have:=hf 1 _ rfl;simpa [k0,Value.cells]using this
 have h2:DataW.trod enc Tryz.prog W base spare held n' 3 [c2]=some x2:=by have:=hf 2 _ rfl;simpa [k0,Value.cells]using this
 have h3:DataW.trod enc Tryz.prog W base spare held n' 3 [c3]=some x3:=by have:=hf 3 _ rfl;simpa [k0,Value.cells]using this
 have h4:DataW.trod enc Tryz.prog W base spare held n' 27 [c4,c5]=some x4:=by have:=hf 4 _ rfl;simpa [k1,Value.cells]using this
 have h5:DataW.trod enc Tryz.prog W base spare held n' 3 [c6]=some x5:=by have:=hf 5 _ rfl;simpa [k0,Value.cells]using this
 have h6:DataW.trod enc Tryz.prog W base spare held n' 3 [c7]=some x6:=by have:=hf 6 _ rfl;simpa [k0,Value.cells]using this
 obtain⟨z0,e0,_,w0⟩:=DataW.trod_int Tryz.underlying3 h0;obtain⟨z1,e1,_,w1⟩:=DataW.trod_int Tryz.underlying3 h1;obtain⟨z2,e2,_,w2⟩:=DataW.trod_int Tryz.underlying3 h2;obtain⟨z3,e3,_,w3⟩:=DataW.trod_int Tryz.underlying3 h3;obtain⟨t,e4,w4,w4'⟩:=zem h4;obtain⟨z5,e5,_,w5⟩:=DataW.trod_int Tryz.underlying3 h5;obtain⟨z6,e6,_,w6⟩:=DataW.trod_int Tryz.underlying3 h6;simp at e0 e1 e2 e3 e4 e5 e6;obtain⟨rfl,rfl⟩:=e4;subst e0 e1 e2 e3 e5 e6;refine⟨⟨z0,z1,z2,z3,t,z5,z6⟩,⟨bounds_i64 w0,bounds_i64 w1,bounds_i64 w2,bounds_i64 w3,w4,w4',bounds_i64 w5,bounds_i64 w6⟩,fun j q u hq hu=> ?_⟩
 match j with
 |0=>cases hq;cases hu;exact z3d _ rfl
 |1=>cases hq;cases hu;exact z3d _ rfl
 |2=>cases hq;cases hu;exact z3d _ rfl
 |3=>cases hq;cases hu;exact z3d _ rfl
 |4=>cases hq;cases hu;exact z3d _ rfl
 |5=>cases hq;cases hu;exact z3d _ rfl
 |6=>cases hq;cases hu;exact z3d _ rfl
 |7=>cases hq;cases hu;exact z3d _ rfl
 |j+8=>cases hq
theorem zm0{W:World}{base:Nat}{spare:Nat→Bool}{held:Bool}{fuel:Nat}{c:Value}{y:DataW H×List MemPlace}(h:DataW.trod enc Tryz.prog W base spare held fuel 22 [c]=some y):
  ∃l:List RawL,(∀x∈l,RawLOk x)∧l.length≤9223372036854775807∧RelV W (z1i W).K (.sl 3 (rlR l)) c:=by
 refine zcq zie RawLOk Tryz.underlying22 (by kernel_rfl) (by decide) (fun _=>rfl) (fun n cs y hl hf=> ?_) h;obtain⟨c0,c1,c2,rfl⟩:=zlO hl;obtain⟨xs,n',_,_,hlen,hxl,hf⟩:=DataW.trod_struct Tryz.underlying81 hf;obtain⟨x0,x1,rfl⟩:=zda hxl;have k0:Tryz.prog.cellsOf 25=2:=by kernel_rfl
 have k1:Tryz.prog.cellsOf 79=1:=by kernel_rfl
 have k2:Tryz.prog.cellsOf 3=1:=by kernel_rfl
 have k3:Tryz.prog.cellsOf 23=1:=by kernel_rfl
 have h0:DataW.trod enc Tryz.prog W base spare held n' 25 [c0,c1]=some x0:=by have:=hf 0 _ rfl;simpa [k0,Value.cells]using this
 have h1:DataW.trod enc Tryz.prog W base spare held n' 79 [c2]=some x1:=by have:=hf 1 _ rfl;simpa [k1,Value.cells]using this
 obtain⟨ys,n2,_,_,hlen2,hyl,hf2⟩:=DataW.trod_struct Tryz.underlying25 h0;obtain⟨y0,y1,rfl⟩:=zda hyl;have g0:DataW.trod enc Tryz.prog W base spare held n2 3 [c0]=some y0:=by have:=hf2 0 _ rfl;simpa [k2,Value.cells]using this
 have g1:DataW.trod enc Tryz.prog W base spare held n2 23 [c1]=some y1:=by have:=hf2 1 _ rfl;simpa [k3,Value.cells]using this
 obtain⟨z0,e0,_,w0⟩:=DataW.trod_int Tryz.underlying3 g0;simp at e0;subst e0;obtain⟨fs,f1,f2,f3⟩:=zel g1;obtain⟨hs,s1,s2,s3⟩:=zlZ h1;refine⟨⟨⟨z0,fs⟩,hs⟩,⟨⟨bounds_i64 w0,f1,f2⟩,s1,s2⟩,fun j q u hq hu=> ?_⟩
 match j with
 |0=>cases hq;cases hu;exact z3d _ rfl
 |1=>cases hq;cases hu;exact⟨f3,by cases f3;rfl⟩
 |2=>cases hq;cases hu;exact⟨s3,by cases s3;rfl⟩
 |j+3=>cases hq
theorem zhK{W:World}{b0 base:Nat}{spare:Nat→Bool}{held:Bool}{v:Value}{d:DataW H}{p:List MemPlace}(hok:Value.okWide Tryz.prog W .any b0 22 v)(h:DataW.Trod enc Tryz.prog W base spare held 22 v d p):
  ∃l:List RawL,(∀x∈l,RawLOk x)∧l.length≤9223372036854775807∧∀r,RelT W (z1i W) r (.pv (.sl 3 (rlR l))) v:=by
 obtain⟨a0,len,cap,rfl⟩:=okWide_slice Tryz.underlying22 hok;obtain⟨fuel,hf⟩:=h;obtain⟨l,h1,h2,h3⟩:=zm0 (c:=.slice a0 len cap) hf;exact⟨l,h1,h2,fun r=> .pv h3⟩
end
end Go.Proofs.YtpmlapgbmgbilaaGreatDoor
end

section
namespace Go.Proofs.YtpmlapgbmgbilaaGreatDoor
open Go.ChangeShapes Go.WideShapes Go.ChangeAt Go.RowKit Go.Lib Go.Mor Go.Deep
open Go.ChangeMaps (open_string shut_string)
abbrev z9Z:List (String×DataW Unit):=[("math/bits.deBruijn32tab",Rows.laid_math_bits_deBruijn32tab),("math/bits.deBruijn64tab",Rows.laid_math_bits_deBruijn64tab),("internal/strconv.uint64pow10",Rows.laid_internal_strconv_uint64pow10),("unicode/utf8.acceptRanges",Rows.laid_unicode_utf8_acceptRanges),("strconv.ErrRange",Rows.laid_strconv_ErrRange),("strconv.ErrSyntax",Rows.laid_strconv_ErrSyntax),("unicode/utf8.first",Rows.laid_unicode_utf8_first)]
theorem zpu:(Rows.laid_internal_strconv_uint64pow10:DataW Unit)=Lib.tabData .u64 Lib.pow10Tab:=by kernel_rfl
theorem zqt{W:World}(h:W.ShapedOpen Tryz.prog):∃k,W.cell? ⟨4,0,none⟩=some (.int .i64 k):=
 cell_of_shapedOpen_int (zero:= #[.int .i64 0]) (t:=3) h (of_decide_eq_true (by kernel_rfl)) (by kernel_rfl) rfl (by kernel_rfl) (by kernel_rfl) Tryz.underlying3
theorem zpP: "*" ++ "errors.errorString" = "*errors.errorString" :=by decide
theorem zpC(u:TypeId)(h:Tryz.prog.typeName? 3 u=some "*errors.errorString"):u=334:=
 typeName_ptr_named (nm:= "errors.errorString") (by rw[zpP];kernel_rfl) (by kernel_rfl) (by decide) u (by rw[zpP];exact h)
theorem zaJ{W:World}(hL:laidMetH Tryz.prog z9Z W)(hsh:W.ShapedOpen Tryz.prog):(glE W.heap.size).G W:=by
 have hL':laidMet Tryz.prog z9Z W:=hL;have hU:=zlz hL' (.tail _ (.tail _ (.tail _ (.tail _ (.tail _ (.tail _ (.head _))))))) (.tail _ (.tail _ (.tail _ (.head _))));have hv:=zqp hsh;have hT:GlobT W:=⟨Lib.tabIs_of_head z9z (t:=323) (by kernel_rfl) Tryz.underlying323 Tryz.underlying173 (by kernel_rfl) (by kernel_rfl) (by have h:=hL'.tail.tail;rw[zpu]at h;exact h),zqt hsh⟩
 obtain⟨p0,p1,_,_,_,_,_,_,pv0,pv1,_⟩:=laid_sentinels2 (g0:=7) (g1:=6) (ti:=178) (tp:=334) (te:=336) (ts:=9) hL'.tail.tail.tail.tail (by kernel_rfl) (by kernel_rfl) (by kernel_rfl) (by kernel_rfl)
  Tryz.underlying178 zpC Tryz.underlying334 Tryz.underlying336 rfl rfl Tryz.underlying9 (by kernel_rfl) (by kernel_rfl)
 have hE:GlobE W:=by
  refine⟨⟨334,.pointer (some p1),?_⟩,⟨334,.pointer (some p0),?_⟩⟩
  ·have:=World.var?_cell (g:=6) (by kernel_rfl) pv1 0;simpa using this
  ·have:=World.var?_cell (g:=7) (by kernel_rfl) pv0 0;simpa using this
 have hN:GlobN0 W.heap.size W:=⟨hU,Nat.le_refl _,hv⟩
 exact(⟨⟨hN,hT⟩,hE⟩:GlobNE W.heap.size W)
theorem zfu(os:Os)(args:Array Value):laidMet Tryz.prog z9Z ((z63 os).forCall (fun _ _=>0) ⟨#[],args,[]⟩).memory:=
 (LaidIn.of_run [8,9,5,3,7,N0+2,6,N0+3,2] 8 (by kernel_rfl) (by kernel_rfl) (by kernel_rfl) (by kernel_rfl)).met
end Go.Proofs.YtpmlapgbmgbilaaGreatDoor
end

section
namespace Go.Proofs.YtpmlapgbmgbilaaGreatDoor
open Go
theorem zqu:Tryz.prog.funcs.any Func.goes=false:=by kernel_rfl
theorem zo2(f:FuncId):Tryz.prog.goes f=false:=by
 have h:=zqu;have key:∀g:Nat,(Tryz.prog.funcs[g]?).any Func.goes=false:=fun g=>by
  cases hg:Tryz.prog.funcs[g]? with
  |none=>rfl
  |some fn=>
   obtain⟨hl,rfl⟩:=gA hg;rw[Array.any_eq_false]at h;simpa using h g hl
 unfold Program.goes;rw[h,Bool.and_false,Bool.or_false];rw[←Bool.not_eq_true];intro hx;obtain⟨g,_,hg⟩:=by simpa using hx
 have:=key g;simp_all
theorem znQ(c:OpenClaim)(hs:c.start=.entering):false=c.goesBy Tryz.prog:=by
 unfold OpenClaim.goesBy Program.goesAt Program.goesFrom;rw[hs];cases Tryz.prog.funcNamed c.func with
 |none=>rfl
 |some f=>simp[zo2 f]
end Go.Proofs.YtpmlapgbmgbilaaGreatDoor
end

section
namespace Go.Mor
open Go
theorem zm9(x:Int){n:Nat}(h:0<n):∃k:Nat,pick x (n:Int)=(k:Int)∧k<n:=by
 have:=z05 x (n:Int) (by omega);obtain⟨k,hk⟩:=Int.eq_ofNat_of_zero_le this.1;exact⟨k,hk,by omega⟩
theorem zid{s:List Ln}(h:RightS s)(h8:s.length<8){x:Ln}(hx:zY x=true)(hn:(z0y s x.c.n).2=false):RightS (s++[x]):=by
 have hno:=ze6 hn;refine⟨by simp;omega,fun l hm=> ?_,fun i j a b ha hb he=> ?_⟩
 ·rcases List.mem_append.1 hm with hm|hm
  ·exact h.line l hm
  ·obtain rfl:=List.mem_singleton.1 hm;exact hx
 ·have key:∀(i:Nat) a,(s++[x])[i]?=some a→(i<s.length∧s[i]?=some a)∨(i=s.length∧a=x):=fun i a ha=>by
   rw[List.getElem?_append]at ha;split at ha
   ·exact .inl ⟨by assumption,ha⟩
   ·rename_i hi;obtain⟨h1,h2⟩:=gJ ha;simp at h1;exact .inr ⟨by omega,by simp at h2;exact h2.symm⟩
  rcases key i a ha with⟨h1,h2⟩|⟨h1,rfl⟩<;>rcases key j b hb with⟨h3,h4⟩|⟨h3,rfl⟩
  ·exact h.own i j a b h2 h4 he
  ·exact absurd he (hno a (gM h2))
  ·exact absurd he.symm (hno b (gM h4))
  ·omega
theorem zbd{α:Type}{s:List α}{k i:Nat}{x a:α}(h:(s.set k x)[i]?=some a):(i=k∧a=x)∨(i≠k∧s[i]?=some a):=by
 by_cases hi:k=i
 ·subst hi;have hl:=(gJ h).1;rw[List.length_set]at hl;rw[List.getElem?_set_self hl]at h;cases h;exact .inl ⟨rfl,rfl⟩
 ·rw[List.getElem?_set_ne hi]at h;exact .inr ⟨fun e=>hi e.symm,h⟩
theorem zkb{s:List Ln}(h:RightS s){k:Nat}{l l':Ln}(hk:s[k]?=some l)(hr:zY l'=true)(hc:l'.c.n=l.c.n):RightS (s.set k l'):=by
 refine⟨by rw[List.length_set];exact h.len,fun x hx=> ?_,fun i j a b ha hb he=> ?_⟩
 ·obtain⟨i,hi⟩:=List.getElem?_of_mem hx;rcases zbd hi with⟨_,rfl⟩|⟨_,h2⟩
  ·exact hr
  ·exact h.line x (gM h2)
 ·rcases zbd ha with⟨h1,rfl⟩|⟨h1,h2⟩<;>rcases zbd hb with⟨h3,rfl⟩|⟨h3,h4⟩
  ·omega
  ·exact h1.trans (h.own k j l b hk h4 (hc▸he))
  ·exact(h.own i k a l h2 hk (hc▸he)).trans h3.symm
  ·exact h.own i j a b h2 h4 he
theorem zf6{l:Ln}(hr:zY l=true):∀k,k≤l.hs.length→(zn l k).1.n=l.c.n
 |0,_=>by rw[z2j];rfl
 |k+1,h=>by
  have ih:=zf6 hr k (by omega);have hx:l.hs[k]?=some l.hs[k]:=gE (by omega);have h1:=z0h hr (k:=k+1) h;rw[z3b hx,z3P _ (z0h hr (by omega))]at h1 ⊢;obtain⟨a1,a2,_⟩:=z3x h1;unfold z03;simp[a1,a2,ih]
def z5q(s:List Ln)(k:Nat)(l:Ln)(h:Chg):List Ln:=s.set k ⟨l.c,l.hs++[h]⟩
theorem zfQ{s:List Ln}(hs:RightS s){k:Nat}{l:Ln}(hk:s[k]?=some l)(h12:l.hs.length<12){h:Chg}(ho:okV (z0H l) h=true):RightS (z5q s k l h):=
 zkb hs hk (ze7 (hs.line l (gM hk)) h12 ho).1 rfl
theorem zjW{l:Ln}(hr:zY l=true)(h:Chg):(z03 (z0H l) h).2=if okV (z0H l) h then 0 else 70:=by
 have hc:zd (z0H l)=true:=z17 (z0h hr (Nat.le_refl _));unfold z03;rw[hc];cases okV (z0H l) h<;>rfl
def Kept(s t:List Ln):Prop:=∀(i:Nat) l,s[i]?=some l→∃l',t[i]?=some l'∧l'.c=l.c∧l.hs.length≤l'.hs.length∧∀v,v≤l.hs.length→zn l' v=zn l v
theorem Kept.refl(s:List Ln):Kept s s:=fun i l h=>⟨l,h,rfl,Nat.le_refl _,fun _ _=>rfl⟩
theorem Kept.trans{s t u:List Ln}(h:Kept s t)(h':Kept t u):Kept s u:=fun i l hi=>by
 obtain⟨a,a1,a2,a3,a4⟩:=h i l hi;obtain⟨b,b1,b2,b3,b4⟩:=h' i a a1;exact⟨b,b1,b2.trans a2,by omega,fun v hv=>(b4 v (by omega)).trans (a4 v hv)⟩
theorem zjD{s:List Ln}{k:Nat}{l:Ln}(hk:s[k]?=some l)(h:Chg):Kept s (z5q s k l h):=fun i x hi=>by
 unfold z5q;by_cases e:k=i
 ·subst e;rw[hk]at hi;cases hi;exact⟨_,List.getElem?_set_self (gJ hk).1,rfl,by simp,fun v hv=>zgP l.c l.hs h hv⟩
 ·exact⟨x,by rw[List.getElem?_set_ne e];exact hi,rfl,Nat.le_refl _,fun _ _=>rfl⟩
theorem zjC(s:List Ln)(x:Ln):Kept s (s++[x]):=fun i l hi=>⟨l,by rw[List.getElem?_append_left (gJ hi).1];exact hi,rfl,Nat.le_refl _,fun _ _=>rfl⟩
end Go.Mor
end

section
namespace Go.Proofs.YtpmlapgbmgbilaaGreatDoor
open Go Go.RowKit Go.Mor Go.Sh Go.Sh.Cd1 Go.Sh.Cd7
section
open Go.Sh.Cd10
def z2E{α:Type}(es:List (List α))(z:List α)(k:Nat):List (List α):=es.take k++List.replicate (es.length-k) z
theorem zc8{α:Type}{es:List (List α)}{z:List α}{k:Nat}(h:k≤es.length):(z2E es z k).length=es.length:=by unfold z2E;rw[List.length_append,List.length_take,List.length_replicate];omega
theorem zji{α:Type}{es:List (List α)}{z:List α}:z2E es z es.length=es:=by unfold z2E;simp
theorem zc9{α:Type}{es:List (List α)}{z:List α}{k W:Nat}(hW:∀cs∈es,cs.length=W)(hz:z.length=W):∀cs∈z2E es z k,cs.length=W:=fun cs h=>by
 rcases List.mem_append.1 h with h|h
 ·exact hW _ (List.mem_of_mem_take h)
 ·rw[(List.mem_replicate.1 h).2];exact hz
theorem zjj{α:Type}{es:List (List α)}{z r:List α}{k W:Nat}(hW:∀cs∈es,cs.length=W)(hz:z.length=W)(hk:es[k]?=some r):List.take (k*W) (z2E es z k).flatten++r++List.drop (k*W+W) (z2E es z k).flatten=(z2E es z (k+1)).flatten:=by
 have hl:=(gJ hk).1;rw[z6K (x:=r) (hW r (gM hk)) (zc9 hW hz) (by rw[zc8 (by omega)];exact hl)];congr 1;unfold z2E;rw[List.take_add_one,hk,List.set_append,List.length_take,if_neg (by omega),show k-min k es.length=0 by omega,show es.length-k=es.length-(k+1)+1 by omega,List.replicate_succ,List.set_cons_zero,List.append_assoc];rfl
theorem z7T{α:Type}{W:Nat}:∀{es:List (List α)},(∀cs∈es,cs.length=W)→es.flatten.length=es.length*W
 |[],_=>by simp
 |cs::es,h=>by
  rw[List.flatten_cons,List.length_append,z7T (es:=es) (fun x hx=>h x (List.mem_cons_of_mem _ hx)),h cs (List.mem_cons_self ..),List.length_cons,Nat.add_mul];omega
theorem z74{α:Type}{W:Nat}:∀{es:List (List α)},(∀cs∈es,cs.length=W)→∀{i j:Nat} {cs:List α} {c:α},es[i]?=some cs→cs[j]?=some c→es.flatten[i*W+j]?=some c
 |[],_,i,j,cs,c,h,_=>by simp at h
 |x::es,hW,i,j,cs,c,h,hc=>by
  have hx:=hW x (List.mem_cons_self ..);cases i with
  |zero=>
   rw[List.getElem?_cons_zero]at h;cases h;have:=(gJ hc).1;rw[Nat.zero_mul,Nat.zero_add,List.flatten_cons,List.getElem?_append_left this];exact hc
  |succ i=>
   have ih:=z74 (es:=es) (fun y hy=>hW y (List.mem_cons_of_mem _ hy)) (i:=i) (by simpa using h) hc;rw[List.flatten_cons,List.getElem?_append_right (by rw[hx,Nat.add_mul];omega),show(i+1)*W+j-x.length=i*W+j by rw[hx,Nat.add_mul];omega];exact ih
def WkL(a b:List TV):Prop:=a.length=b.length∧∀(j:Nat) c d,a[j]?=some c→b[j]?=some d→Wk c d
theorem WkL.app{a b c d:List TV}(h:WkL a b)(h':WkL c d):WkL (a++c) (b++d):=⟨by rw[List.length_append,List.length_append,h.1,h'.1],fun j x y hx hy=>by
 rcases Nat.lt_or_ge j a.length with hj|hj
 ·rw[List.getElem?_append_left hj]at hx;rw[List.getElem?_append_left (by rw[←h.1];exact hj)]at hy;exact h.2 j x y hx hy
 ·rw[List.getElem?_append_right hj]at hx;rw[List.getElem?_append_right (by rw[←h.1];exact hj),←h.1]at hy;exact h'.2 _ x y hx hy⟩
theorem WkL.flat:∀{A B:List (List TV)},A.length=B.length→(∀(i:Nat) a b,A[i]?=some a→B[i]?=some b→WkL a b)→WkL A.flatten B.flatten
 |[],[],_,_=>⟨rfl,fun j c d h=>by cases h⟩
 |[],b::B,h,_=>by cases h
 |a::A,[],h,_=>by cases h
 |a::A,b::B,h,H=>by
  rw[List.flatten_cons,List.flatten_cons];exact(H 0 a b rfl rfl).app (WkL.flat (by simpa using h) fun i x y hx hy=>H (i+1) x y hx hy)
def Stab(cs:List TV):Prop:=∀c∈cs,(∃p,c=.pv p)∨∃W es,c=.tsl W es
theorem Stab.tail{c:TV}{cs:List TV}(h:Stab (c::cs)):Stab cs:=fun x hx=>h x (List.mem_cons_of_mem _ hx)
theorem Stab.fgt:∀{cs:List TV},Stab cs→∀ids,List.map (fgt3 ids) cs=cs
 |[],_,_=>rfl
 |c::cs,h,ids=>by
  rw[List.map_cons,Stab.fgt h.tail ids];rcases h c (List.mem_cons_self ..)with⟨p,rfl⟩|⟨W,es,rfl⟩<;>rfl
theorem Stab.ids:∀{cs:List TV},Stab cs→cs.flatMap TV.ids1=[]
 |[],_=>rfl
 |c::cs,h=>by
  rw[List.flatMap_cons,Stab.ids h.tail];rcases h c (List.mem_cons_self ..)with⟨p,rfl⟩|⟨W,es,rfl⟩<;>rfl
theorem Stab.ren:∀{cs:List TV},Stab cs→∀ρ,seqO (TV.ren1 ρ) cs=some cs
 |[],_,_=>rfl
 |c::cs,h,ρ=>by
  have ih:=Stab.ren h.tail ρ;rcases h c (List.mem_cons_self ..)with⟨p,rfl⟩|⟨W,es,rfl⟩<;>simp[seqO,ih,TV.ren1,TV.renF,TV.ren0]
theorem Stab.flat{A:List (List TV)}(h:∀a∈A,Stab a):Stab A.flatten:=fun c hc=>by
 obtain⟨a,ha,hca⟩:=List.mem_flatten.1 hc;exact h a ha c hca
def lnT(l:Ln):List TV:=[S (str l.c.n),.pv (.sl 4 (flR l.c.fs)),tgT 8 (z0P l.hs)]
theorem z7d(ls:List Ln):∀cs∈ls.map lnT,cs.length=3:=fun cs h=>by
 obtain⟨l,_,rfl⟩:=List.mem_map.1 h;rfl
theorem zlQ(l:Ln):Stab (lnT l):=fun c hc=>by
 unfold lnT at hc;simp only[List.mem_cons,List.not_mem_nil,or_false]at hc;rcases hc with rfl|rfl|rfl
 ·exact .inl ⟨_,rfl⟩
 ·exact .inl ⟨_,rfl⟩
 ·cases z0P l.hs with
  |nil=>exact .inl ⟨_,rfl⟩
  |cons e r=>exact .inr ⟨_,_,rfl⟩
theorem z65(ls:List Ln):∀a∈ls.map lnT,Stab a:=fun a h=>by
 obtain⟨l,_,rfl⟩:=List.mem_map.1 h;exact zlQ l
theorem zkL(l:Ln):WkL (lnT l) (pvC (lnR l)):=⟨rfl,fun j c d hc hd=>by
 match j with
 |0=>cases hc;cases hd;exact .refl _
 |1=>cases hc;cases hd;exact .refl _
 |2=>cases hc;cases hd;exact zqD 8 _
 |j+3=>cases hc⟩
theorem zey(es:List (List PV)):es.flatten.map TV.pv=(es.map pvC).flatten:=by
 unfold pvC;rw[List.map_flatten]
theorem zoA(ls:List Ln):WkL (ls.map lnT).flatten ((z0s ls).flatten.map TV.pv):=by
 rw[zey];unfold z0s;rw[List.map_map];refine WkL.flat (by simp) fun i a b ha hb=> ?_;rw[List.getElem?_map]at ha hb;cases hx:ls[i]? with
 |none=>rw[hx]at ha;cases ha
 |some l=>rw[hx]at ha hb;cases ha;cases hb;exact zkL l
theorem zcO(g:Sh.Glob)(l:Ln)(hl:l.c.fs.length≤1000)(hh:l.hs.length≤1000):zC g 64 [.agg (pvC (lnR l))] [] (.agg (lnT l)) []:=by
 have HE:=zj3 g 93 (z0P l.hs) (fun cs hcs=>by
  obtain⟨x,hx,rfl⟩:=List.mem_map.1 hcs;rfl) (by rw[z0z];exact hh) (fun cs hcs=>by
  obtain⟨x,hx,rfl⟩:=List.mem_map.1 hcs;exact zmn g x)
 have HC:=z2P g l.c hl;unfold lnR lnT pvC;generalize z0P l.hs=es at*;unfold clT at HC;cases es with
 |nil=>
  unfold tgT at*;refine za tf_107 ?_;simp only[vW,seval];refine z8 HC ?_;refine z8 HE ?_;trivial
 |cons e r=>
  unfold tgT at*;refine za tf_107 ?_;simp only[vW,seval];refine z8 HC ?_;refine z8 HE ?_;trivial
theorem zj6(g:Sh.Glob)(ls:List Ln)(h0:ls≠[])(hl:ls.length≤1000)(H:∀l∈ls,zC g 64 [.agg (pvC (lnR l))] [] (.agg (lnT l)) []):
  zC g 63 [.pv (.sl 3 (z0s ls)),.pv (.v (.func (.func 64) #[] #[]))] [] (.bs 1000 0 ls.length 0) [.box (ls.map lnT).flatten]:=by
 refine zj tf_105 ?_;have d0:¬(ls.length:Int)=0:=by have:=List.length_pos_iff.2 h0;omega
 have hrl:(ls.map lnT).length=ls.length:=List.length_map _;have hzs:Stab [TV.pv (.v (.string ⟨#[]⟩)),TV.pv (.v (.slice none 0 0)),TV.pv (.v (.slice none 0 0))]:=fun c hc=>by
  simp only[List.mem_cons,List.not_mem_nil,or_false]at hc;rcases hc with rfl|rfl|rfl<;>exact .inl ⟨_,rfl⟩
 have z0:(List.replicate ls.length [TV.pv (.v (.string ⟨#[]⟩)),TV.pv (.v (.slice none 0 0)),TV.pv (.v (.slice none 0 0))]).flatten=(z2E (ls.map lnT) [TV.pv (.v (.string ⟨#[]⟩)),TV.pv (.v (.slice none 0 0)),TV.pv (.v (.slice none 0 0))] 0).flatten:=by unfold z2E;rw[hrl];simp
 have XS:=fun i=>(Stab.flat fun a (ha:a∈z2E (ls.map lnT) [TV.pv (.v (.string ⟨#[]⟩)),TV.pv (.v (.slice none 0 0)),TV.pv (.v (.slice none 0 0))] i)=>by
  rcases List.mem_append.1 ha with ha|ha
  ·exact z65 ls a (List.mem_of_mem_take ha)
  ·rw[(List.mem_replicate.1 ha).2];exact hzs)
 have X1:=fun i=>(XS i).fgt;have X2:=fun i=>(XS i).ids;have X3:=fun i=>(XS i).ren;clear XS;have hp:=fun i l (ex:ls[i]?=some l)=>zjj (z:=[TV.pv (.v (.string ⟨#[]⟩)),TV.pv (.v (.slice none 0 0)),TV.pv (.v (.slice none 0 0))]) (z7d ls) rfl (show(ls.map lnT)[i]?=some (lnT l) by rw[List.getElem?_map,ex];rfl);have hfl:∀i,i≤ls.length→(z2E (ls.map lnT) [TV.pv (.v (.string ⟨#[]⟩)),TV.pv (.v (.slice none 0 0)),TV.pv (.v (.slice none 0 0))] i).flatten.length=ls.length*3:=fun i hi=>by rw[z7T (zc9 (z7d ls) rfl),zc8 (by omega),hrl]
 have hend:(z2E (ls.map lnT) [TV.pv (.v (.string ⟨#[]⟩)),TV.pv (.v (.slice none 0 0)),TV.pv (.v (.slice none 0 0))] ls.length).flatten=(ls.map lnT).flatten:=by rw[←hrl,zji]
 rw[←hend];obtain⟨X,hX⟩:∃X:Nat→List TV,∀i,(z2E (ls.map lnT) [TV.pv (.v (.string ⟨#[]⟩)),TV.pv (.v (.slice none 0 0)),TV.pv (.v (.slice none 0 0))] i).flatten=X i:=⟨_,fun _=>rfl⟩
 simp only[hX]at z0 X1 X2 X3 hp hfl ⊢;clear hend hX;simp only[vW,seval,d0,z0,z0k,List.map_cons,List.map_nil];refine⟨⟨by omega,by unfold maxLen;omega⟩,?_⟩;refine zk (σ:={i:Nat // i≤ls.length}) (fun i=>⟨[(1,.pv (.v (.func (.func 64) #[] #[]))),(5,.bs 13 0 ls.length 0),(14,.pv (.sl 3 (z0s ls))),(15,I (ls.length:Int)),(16,I (i.1:Int))],[(13,X i.1)],[],[]⟩) (fun i=>ls.length-i.1) ⟨0,Nat.zero_le _⟩ ?_ ?_
 ·simp only[X1];exact lwA
 rintro⟨i,hi⟩;by_cases hlt:i<ls.length
 ·have d1:(i:Int)<(ls.length:Int):=by omega
  obtain⟨l,ex⟩:∃x,ls[i]?=some x:=⟨_,gE hlt⟩
  have HC:=H l (gM ex);have hp:=hp i l ex;have hfl:=hfl i hi;have w1:=wS i;have hT:lnT l=[S (str l.c.n),.pv (.sl 4 (flR l.c.fs)),tgT 8 (z0P l.hs)]:=rfl;rw[hT]at hp HC;unfold lnR pvC at HC;simp only[List.map_cons,List.map_nil]at HC;cases hcs:z0P l.hs with
  |nil=>
   rw[hcs]at hp HC;unfold tgT at hp HC;simp only[List.append_assoc,List.cons_append,List.nil_append]at hp;simp only[vW,seval,d1,z0k,z2G,ex,lnR,hcs,X1];(with_reducible apply zw);simp only[vW,seval,X1];rfl;exact HC;rfl;simp only[vW,seval,X1];rfl;simp only[vW,seval,d1,hp,w1,X1];refine⟨by omega,zc ⟨i+1,by omega⟩ (by show ls.length-(i+1)<ls.length-i;omega) ?_⟩;apply z0g<;>simp[leL,lk,sv,Nat.beq,I,S,ES.kill,has,drp,zr,X1]
   exact hp
  |cons e r=>
   rw[hcs]at hp HC;unfold tgT at hp HC;simp only[List.append_assoc,List.cons_append,List.nil_append]at hp;simp only[vW,seval,d1,z0k,z2G,ex,lnR,hcs,X1];(with_reducible apply zw);simp only[vW,seval,X1];rfl;exact HC;rfl;simp only[vW,seval,X1];rfl;simp only[vW,seval,d1,hp,w1,X1];refine⟨by omega,zc ⟨i+1,by omega⟩ (by show ls.length-(i+1)<ls.length-i;omega) ?_⟩;apply z0g<;>simp[leL,lk,sv,Nat.beq,I,S,ES.kill,has,drp,zr,X1]
   exact hp
 ·have d1:¬(i:Int)<(ls.length:Int):=by omega
  obtain rfl:i=ls.length:=by omega
  simp only[vW,seval,d1,X1,X2,X3]
theorem zbc(g:Sh.Glob)(ls:List Ln)(h0:ls≠[])(hn:ls.length≤1000)(hl:∀l∈ls,l.c.fs.length≤1000∧l.hs.length≤1000):zC g 34 [scT ls] [] (.agg [.bs 1000 0 ls.length 0]) [.box (ls.map lnT).flatten]:=by
 have HE:=zj6 g ls h0 hn (fun l h=>zcO g l (hl l h).1 (hl l h).2);have YS:=Stab.flat (z65 ls);have Y1:=YS.fgt;have Y2:=YS.ids;have Y3:=YS.ren;clear YS;generalize(ls.map lnT).flatten=Y at*;refine zj tf_100 ?_;unfold scT;simp only[vW,seval];refine z8 HE ?_ (hs:=by simp only[vW,seval,Y1,Y2,Y3];rfl);simp only[vW,seval,Y1,Y2,Y3]
theorem zpY{ls:List Ln}{k:Nat}{l l':Ln}{r:List TV}(hk:ls[k]?=some l)(hr:WkL r (pvC (lnR l'))):WkL ((ls.map lnT).set k r).flatten ((z0s (ls.set k l')).flatten.map TV.pv):=by
 rw[zey];unfold z0s;rw[List.map_map];refine WkL.flat (by simp) fun i a b ha hb=> ?_;rw[List.getElem?_map]at hb;by_cases hi:k=i
 ·subst hi;have hkl:=(gJ hk).1;rw[List.getElem?_set_self (by simpa using hkl)]at ha;rw[List.getElem?_set_self hkl]at hb;cases ha;cases hb;exact hr
 ·rw[List.getElem?_set_ne hi,List.getElem?_map]at ha;rw[List.getElem?_set_ne hi]at hb;cases hx:ls[i]? with
  |none=>rw[hx]at ha;cases ha
  |some x=>rw[hx]at ha hb;cases ha;cases hb;exact zkL x
theorem zjH(ls:List Ln):∀cs∈z0s ls,cs.length=3:=fun cs h=>by
 obtain⟨l,_,rfl⟩:=List.mem_map.1 h;rfl
theorem zoK{d e W n:Nat}{es es2:List (List PV)}(h0:0<es2.length)(h1:(es.length+es2.length)*n≤140737488355328)(h2:es.length+es2.length≤maxLen):z6S d e W n (some (tgT W es)) (some es2)=some (.own d W (es++es2),.row d (e,W,es.length+es2.length)):=by
 cases es with
 |nil=>
  simp only[List.length_nil,Nat.zero_add]at h1 h2;unfold tgT;rw[e_appN1,if_pos ⟨h1,h2⟩];simp
 |cons e r=>
  unfold tgT;rw[e_appN3,if_pos ⟨rfl,h0,h1,h2⟩]
theorem ziF(m:Nat)(ls:List Ln)(h0:ls≠[])(h8:ls.length<8)(hs:z6Q m ls)(he:(z54 ls).2=0)(hsm:∀l∈ls,l.c.fs.length≤1000∧l.hs.length≤1000)(c:Cls)(hc:zd c=true)(hn:z0y ls c.n=(0,false)):
  zC (glE m) 13 [scT ls,clT c] [] (.tuple [scT (ls++[⟨c,[]⟩]),I 0]) []:=by
 have hk:=z1h hc;have HC:=z4Q m ls (by omega) hs;have HR:=z0t (glE m) c hk.1;have HN:=z3K (glE m) ls c.n (by omega);have HS:=zbc (glE m) ls h0 (by omega) hsm;have HF:=z2P (glE m) c (by omega);rw[hc]at HR;rw[he]at HC;rw[hn]at HN;have d8:¬(8:Int)≤(ls.length:Int):=by omega
 have e1:z0s (ls++[⟨c,[]⟩])=z0s ls++[lnR ⟨c,[]⟩]:=by unfold z0s;rw[List.map_append];rfl
 unfold scT;rw[e1];refine SCalls.out (y:=.tuple [.agg [.pv (.sl 3 (z0s ls++[z6n c]))],I 0]) ?_ (znq (zeA (z0s ls) c));have hw:=zoA ls;have YS:=Stab.flat (z65 ls);have Y1:=YS.fgt;have Y2:=YS.ids;have Y3:=YS.ren;clear YS;generalize(ls.map lnT).flatten=Y at*;refine z1z ze tf_158 rfl ?_
 conv in SFunc.code _=>reduce
 unfold scT clT B at*;refine zq ze ?_;simp only[vW,seval];refine zq ze ?_;simp only[vW,seval];refine z8 HC ?_;refine zq ze ?_;simp only[vW,seval];refine z8 HR ?_;refine zq ze ?_;simp only[vW,seval];refine z8 HN ?_;simp only[vW,seval,z0k,d8,false_imp_iff,true_and,forall_const];refine zq ze ?_;simp only[vW,seval];refine z8 HS ?_ (hs:=by simp only[vW,seval,Y1,Y2,Y3];rfl);refine z1P (zeB (k:=2160) (ds:=(z0s ls).flatten.map TV.pv) rfl hw.1 hw.2) ?_;refine z1P (znM (x:=10) (j:=0) (d:=2160) (W:=3) (es:=z0s ls) rfl (zjH ls) (by decide) rfl (by rw[z0k];rfl)) ?_;refine zq ze ?_;simp only[vW,seval];right;refine z8 HF ?_;refine⟨by rw[z0k];unfold maxLen;omega,?_⟩;refine z1P (zgv (x:=10) (j:=0) (d:=47) (W:=3) rfl rfl) ?_;refine z1I ze ?_;simp only[vW,seval];rfl
theorem zov(m:Nat)(ls:List Ln)(hl:ls.length≤1000)(hs:z6Q m ls)(he:(z54 ls).2=0)(hsm:∀l∈ls,l.c.fs.length≤1000∧l.hs.length≤1000){k:Nat}{l:Ln}(hk:ls[k]?=some l)(hlo:LnOk m l)(h12:l.hs.length<12)(h:Chg)(hh:ChOk m h)(ha:(z03 (zn l l.hs.length).1 h).2=0):
  zC (glE m) 10 [scT ls,I (k:Int),chT h] [] (.tuple [scT (ls.set k ⟨l.c,l.hs++[h]⟩),I 0]) []:=by
 have hkl:=(gJ hk).1;have HL:=z6G m ls hl hs he hk;have HM:=z92 m l hlo l.hs.length (Nat.le_refl _);have hrc:=z1h (z17 (z0h hlo.r (Nat.le_refl _)));have HA:=z4p m (zn l l.hs.length).1 h hrc.1 hh (by omega);rw[show z03 (zn l l.hs.length).1 h=((z03 (zn l l.hs.length).1 h).1,0) from by rw[←ha]]at HA;have HS:=zbc (glE m) ls (by intro e;rw[e]at hkl;simp at hkl) hl hsm;generalize(z03 (zn l l.hs.length).1 h).1=d at*;generalize(zn l l.hs.length).1=c0 at*;have d0:¬(12:Int)≤(l.hs.length:Int):=by omega
 have d1:(k:Int)<(ls.length:Int):=by omega
 have hel:(ls.map lnT)[k]?=some (lnT l):=by rw[List.getElem?_map,hk];rfl
 have eg:((ls.map lnT).flatten)[k*3+2]?=some (tgT 8 (z0P l.hs)):=z74 (z7d ls) hel rfl;have hfl:(ls.map lnT).flatten.length=ls.length*3:=by rw[z7T (z7d ls),List.length_map]
 have hY:∀o,List.take (k*3+2) (ls.map lnT).flatten++[o]++List.drop (k*3+2+1) (ls.map lnT).flatten=((ls.map lnT).set k [S (str l.c.n),.pv (.sl 4 (flR l.c.fs)),o]).flatten:=fun o=>by
  rw[←z6K (x:=[S (str l.c.n),.pv (.sl 4 (flR l.c.fs)),o]) rfl (z7d ls) (by rw[List.length_map];exact hkl),List.take_add_one,List.take_add_one];have g0:=z74 (z7d ls) hel (j:=0) rfl;have g1:=z74 (z7d ls) hel (j:=1) rfl;rw[Nat.add_zero]at g0;rw[g0,g1];simp
 have hst:WkL (List.take (k*3+2) (ls.map lnT).flatten++[.own 55 8 (z0P l.hs++[chR h])]++List.drop (k*3+2+1) (ls.map lnT).flatten) ((z0s (ls.set k ⟨l.c,l.hs++[h]⟩)).flatten.map TV.pv):=by
  rw[hY];refine zpY hk ⟨rfl,fun j c d hc hd=> ?_⟩
  match j with
  |0=>cases hc;cases hd;exact .refl _
  |1=>cases hc;cases hd;exact .refl _
  |2=>
   cases hc;cases hd;have e:z0P (l.hs++[h])=z0P l.hs++[chR h]:=by unfold z0P;rw[List.map_append];rfl
   show Wk _ (.pv (.sl 8 (z0P (l.hs++[h]))));rw[e];exact zcF (PWk.refl _)
  |j+3=>cases hc
 clear hY;unfold chR at hst;have YS:=Stab.flat (z65 ls);have Y1:=YS.fgt;have Y2:=YS.ids;have Y3:=YS.ren;clear YS;generalize(ls.map lnT).flatten=Y at*;refine z1z ze tf_166 rfl ?_
 conv in SFunc.code _=>reduce
 unfold scT lnC z4P clT chT at*;refine zq ze ?_;simp only[vW,seval];refine zq ze ?_;simp only[vW,seval];refine z8 HL ?_;refine zq ze ?_;simp only[vW,seval];refine zq ze ?_;simp only[vW,seval,z0z,d0];refine zq ze ?_;simp only[vW,seval,z0z,d0];refine z7 HM ?_;simp only[vW,seval];refine z8 HA ?_;refine zq ze ?_;simp only[vW,seval];refine z8 HS ?_ (hs:=by simp only[vW,seval,Y1,Y2,Y3];rfl);refine zq ze ?_;simp only[vW,seval,d1,eg,hfl,Y1];rw[zoK (es2:=[[_,_,_,_,_,_,_,_]]) (Nat.succ_pos 0) (by rw[z0z];show(_+1)*104≤_;omega) (by rw[z0z];show _+1≤maxLen;unfold maxLen;omega)];simp only[vW,seval,d1,hfl,Y1];right;refine⟨by omega,?_⟩;refine z1P (zeB (k:=2172) (ds:=(z0s (ls.set k ⟨l.c,l.hs++[h]⟩)).flatten.map TV.pv) rfl hst.1 hst.2) ?_;refine z1P (zjn (x:=12) (j:=0) (d:=2172) (W:=3) (c:=0) (es:=z0s (ls.set k ⟨l.c,l.hs++[h]⟩)) rfl (zjH _) (by decide) rfl (by rw[z0k,List.length_set];rfl)) ?_;refine z1I ze ?_;simp only[vW,seval]
section
variable{m:Nat}{ls:List Ln}{k:Nat}{l:Ln}(hl:ls.length≤1000)(hs:z6Q m ls)(he:(z54 ls).2=0)(hk:ls[k]?=some l)
include hl hs he hk
theorem zmD(hlo:LnOk m l)(h12:l.hs.length<12)(h:Chg)(hh:ChOk m h)(ha:(z03 (zn l l.hs.length).1 h).2≠0):zC (glE m) 10 [scT ls,I (k:Int),chT h] [] (.tuple [.agg [zr],I (z03 (zn l l.hs.length).1 h).2]) []:=by
 have HL:=z6G m ls hl hs he hk;have HM:=z92 m l hlo l.hs.length (Nat.le_refl _);have hrc:=z1h (z17 (z0h hlo.r (Nat.le_refl _)));have HA:=z4p m (zn l l.hs.length).1 h hrc.1 hh (by omega);generalize z03 (zn l l.hs.length).1 h=r at*;generalize(zn l l.hs.length).1=c0 at*;have d0:¬(12:Int)≤(l.hs.length:Int):=by omega
 refine za tf_166 ?_;unfold scT lnC z4P clT chT zr at*;simp only[vW,seval];refine z8 HL ?_;simp only[vW,seval,z0z,d0,false_imp_iff,and_true,true_and,forall_const];refine z7 HM ?_;simp only[vW,seval];refine z8 HA ?_;simp only[vW,seval,ha,false_imp_iff,and_true,true_and,forall_const]
end
end
theorem zqX(a b:zB):(str a==str b)=(a==b):=by
 show((str a).data==(str b).data)=(a==b)
 rw[Bool.eq_iff_iff,beq_iff_eq,beq_iff_eq];constructor
 ·intro h;have:=congrArg Array.toList h;simpa [str]using this
 ·intro h;rw[h]
theorem zqK(x y:Fld):((str x.n==str y.n)&&(z0f ⟨x.t.k,x.t.o⟩ ⟨y.t.k,y.t.o⟩&&((x.ix==y.ix)&&true)))=z8N x y:=by
 rw[zqX];unfold z8N z0f;simp[Bool.and_assoc]
theorem zaD:∀{a b:List Fld},z1N a b=true→a.length=b.length
 |[],[],_=>rfl
 |[],_::_,h=>by simp[z1N]at h
 |_::_,[],h=>by simp[z1N]at h
 |x::a,y::b,h=>by
  rw[z1N,Bool.and_eq_true]at h;rw[List.length_cons,List.length_cons,zaD h.2]
theorem zoW(g:Sh.Glob)(a b:List Fld)(hl:a.length≤4611686018427387904)(hl':b.length≤4611686018427387904):zC g 39 [.pv (.sl 4 (flR a)),.pv (.sl 4 (flR b))] [] (B (z1N a b)) []:=by
 obtain⟨R,hR⟩:∃R,z1N a b=R:=⟨_,rfl⟩
 rw[hR];refine za Cd4.tf_179 ?_;unfold B;by_cases he:a.length=b.length
 ·have d0:(a.length:Int)=(b.length:Int):=by omega
  simp only[vW,seval,d0,clV];refine zk (σ:={i:Nat // i≤a.length∧z1N (a.drop i) (b.drop i)=R}) (fun i=>⟨[(0,.pv (.sl 4 (flR a))),(1,.pv (.sl 4 (flR b))),(12,I (a.length:Int)),(13,I (i.1:Int))],[],[],[]⟩) (fun i=>a.length-i.1) ⟨0,Nat.zero_le _,by simpa using hR⟩ ?_ ?_
  ·apply z0g<;>simp[leL,lk,sv,Nat.beq,I,S,ES.kill,has,drp,zr,d0]
  rintro⟨i,hi,hT⟩;by_cases hlt:i<a.length
  ·have d1:(i:Int)<(a.length:Int):=by omega
   have hlt2:i<b.length:=by omega
   obtain⟨x,ex⟩:∃x,a[i]?=some x:=⟨_,gE hlt⟩
   obtain⟨y,ey⟩:∃y,b[i]?=some y:=⟨_,gE hlt2⟩
   have w1:=wS i;have ha:a.drop i=x::a.drop (i+1):=by rw[List.drop_eq_getElem_cons hlt];congr 1;rw[gE hlt]at ex;exact Option.some.inj ex
   have hb:b.drop i=y::b.drop (i+1):=by rw[List.drop_eq_getElem_cons hlt2];congr 1;rw[gE hlt2]at ey;exact Option.some.inj ey
   rw[ha,hb,z1N]at hT;have hf:=zqK x y;have hn:=zpm (str x.n) (str y.n) x.t.k y.t.k x.t.o y.t.o x.ix y.ix;rw[hf]at hn;cases hx:z8N x y
   ·rw[hx]at hT hn;simp only[Bool.false_and]at hT;subst hT;simp only[vW,seval,d1,ex,ey,hn,clV]
   ·rw[hx]at hT hn;rw[Bool.true_and]at hT;simp only[vW,seval,d1,ex,ey,hn,w1,clV];refine zc ⟨i+1,hlt,hT⟩ (by show a.length-(i+1)<a.length-i;omega) ?_;exact lwA
  have d1:¬(i:Int)<(a.length:Int):=by omega
  have ha:a.drop i=[]:=List.drop_eq_nil_of_le (by omega);have hb:b.drop i=[]:=List.drop_eq_nil_of_le (by omega);rw[ha,hb,z1N]at hT;subst hT;simp only[vW,seval,d1]
 ·have d0:¬(a.length:Int)=(b.length:Int):=by omega
  have:R=false:=by
   cases R
   ·rfl
   ·exact absurd (zaD hR) he
  subst this;simp only[vW,seval,d0,clV]
theorem z7O(g:Sh.Glob)(a b:Cls)(hl:a.fs.length≤4611686018427387904)(hl':b.fs.length≤4611686018427387904):zC g 16 [clT a,clT b] [] (B (z40 a b)) []:=by
 have HE:=zoW g a.fs b.fs hl hl';unfold z40;refine za Cd4.tf_51 ?_;unfold clT B at*;cases hn:(a.n==b.n)
 ·simp only[vW,seval,hn]
 ·simp only[vW,seval,hn];exact zf HE
theorem zfM(g:Sh.Glob)(l:List V)(hf:∀v∈l,VFew v)(hl:l.length≤4611686018427387904):zC g 24 [.pv (.sl 4 (V.rows l)),.pv (.sl 4 (V.rows l))] [] (B true) []:=by
 refine za Cd7.tf_152 ?_;unfold B;simp only[vW,seval];refine zk (σ:={i:Nat // i≤l.length}) (fun i=>⟨[(0,.pv (.sl 4 (V.rows l))),(1,.pv (.sl 4 (V.rows l))),(5,I (i.1:Int))],[],[],[]⟩) (fun i=>l.length-i.1) ⟨0,Nat.zero_le _⟩ ?_ ?_
 ·exact lwA
 rintro⟨i,hi⟩;by_cases hlt:i<l.length
 ·have d1:(i:Int)<(l.length:Int):=by omega
  obtain⟨v,ev⟩:∃v,l[i]?=some v:=⟨_,gE hlt⟩
  have w1:=wS i;have HS:=zi2 g v v (hf v (gM ev)).small;rw[ziX]at HS;simp only[vW,seval,d1,ev];refine z7 HS ?_;simp only[vW,seval,w1];refine zc ⟨i+1,hlt⟩ (by show l.length-(i+1)<l.length-i;omega) ?_;exact lwA
 have d1:¬(i:Int)<(l.length:Int):=by omega
 simp only[vW,seval,d1]
end Go.Proofs.YtpmlapgbmgbilaaGreatDoor
end

section
namespace Go.Sh.Cd11
open Go Go.Sh
abbrev gQ(a:GA):Prop:=gT Go.Proofs.Tryz.prog a
theorem gK{a:GA}(h:gQ a:=by unfold gQ gT;kernel_rfl):gQ a:=h
theorem tf_178:gQ ⟨50,32,[(29,1)],[],[[6],[10013],[1000002,14],[0,6,14],[],[18021],[7,22025],[8009,26029],[1002,15017,30],[6,30031],[1002,15017]],[.tmp 6],false⟩:=gK
theorem tf_177:gQ ⟨52,32,[(29,1)],[],[[6],[10013],[1000002,14],[0,6,14],[],[18021],[7,22025],[8009,26029],[1002,15017,30],[6,30031],[1002,15017]],[.tmp 6],false⟩:=gK
noncomputable def funcs:Nat→Option SFunc
 |_=>none
end Go.Sh.Cd11
end
