/- Merged texts: Zm6 Zm7 Zm8 Fl Zm9 Zm10 Zm5 Zm11 Zf5 Cd2. No statement of the program is proved here. -/
import Derived.Test.YtpmlapgbmgbilaaGreatDoorR28
import Derived.Shelf.RegionOpenPlain
import Derived.Deep.LoopGhost
import Derived.Lib.Walk
import Derived.Lib.SliceRun
import Derived.Lib.AppendZerosOnto
set_option linter.unusedSimpArgs false
set_option linter.unusedVariables false
set_option maxRecDepth 100000
set_option maxHeartbeats 8000000
section
namespace Go.Proofs.YtpmlapgbmgbilaaGreatDoor
open Go Go.RowKit Go.Mor Go.Sh
section
open Go.Lib
theorem zfp{P:Program}{t:TypeId}{z:Value}{n b:Nat}(h:(P.info? t).map (fun i=>(i.zero,i.size,i.bytes))=some (some z,n,b)):∃i,P.info? t=some i∧i.zero=some z∧i.size=n∧i.bytes=b:=by
 obtain⟨i,h1,h2⟩:=gO h;simp only[Prod.mk.injEq]at h2;exact⟨i,h1,h2.1,h2.2.1,h2.2.2⟩
theorem zrx:(Tryz.prog.info? 71).map (fun i=>(i.zero,i.size,i.bytes))=some (some (.agg #[.string ⟨#[]⟩,.int .i64 0,.int .i64 0,.bool false]),4,40):=by kernel_rfl
theorem ztm:(Tryz.prog.info? 76).map (fun i=>(i.zero,i.size,i.bytes))=some (some (.agg #[.int .i64 0,.int .i64 0,.string ⟨#[]⟩,.slice none 0 0]),4,56):=by kernel_rfl
theorem zkF(ad:Addr)(n c:Nat)(news:List Value)(w:World)(hl:news.length=n*4)(hn:n≤maxLen)(hbig:n*40≤140737488355328)(hc:∀j u,news[j]?=some u→w.cell? (ad.add j)=some u)(h1:∀u∈news,u.oneCell'=true):
  Calls Tryz.prog 158 #[.slice (some ad) n c] w fun e w'=>∃v',e=.returned v'∧w'.ownsRow w.heap.size 71 4 v' n news∧Below w.heap.size w w':=by
 have mixed:=ze;obtain⟨i0,hi,hz0,hz1,hz2⟩:=zfp zrx;have t22:=Tryz.underlying40;have q22:∀(w:World) (a:Option Addr) (n c n' c':Nat),(binOp .eql 40 (.slice a n c) (.slice none n' c')).run Tryz.prog w=.ok (.bool a.isNone) w:=fun w a n c n' c'=>Lib.run_eql_slice_nil w _ _ a n c n' c' t22;have A:Aside (∀j u,news[j]?=some u→w.cell? (ad.add j)=some u):=hc;clear hc
 go_enter Tryz.func158,Tryz.ntmps158
 go_wp2_with (at_builtin;refine wpList_append_own _ rfl _ _ 40 rfl w.heap.size 71 i0 _ 4 40 t22 hi hz0 hz1 hz2 rfl (by decide) _ _ _ rfl (World.ownsRow_made w #[] 0 (Nat.le_refl _) (Nat.zero_le _) (by simp)) ad n c news rfl ?qc1 ?qc2 ?qc3 ?qc4 ?qc5 ?qc6 ?_)
 case qc1=>exact hl
 case qc2=>
  intro j u hj;exact Lib.cell?_alloc_some _ (A.out j u hj)
 case qc3=>exact h1
 case qc4=>rw[Nat.zero_add];exact hn
 case qc5=>rw[Nat.zero_add];exact hbig
 case qc6=>simp
 intro v' w1 hown hgrow hnil
 go_wp2
 go_ret
 refine⟨v',rfl,by simpa using hown,?_⟩;exact((Below.refl _ w).alloc (Nat.le_refl _) _).grown hgrow (by simp) (by intro k hk;simp[Value.ownBlock]at hk;omega)
theorem zkG(n c:Nat)(w:World):Calls Tryz.prog 158 #[.slice none n c] w fun e w'=>e=.returned (.slice none 0 0)∧w'=w:=by
 have mixed:=ze;have t22:=Tryz.underlying40;have q22:∀(w:World) (a:Option Addr) (n c n' c':Nat),(binOp .eql 40 (.slice a n c) (.slice none n' c')).run Tryz.prog w=.ok (.bool a.isNone) w:=fun w a n c n' c'=>Lib.run_eql_slice_nil w _ _ a n c n' c' t22
 go_enter Tryz.func158,Tryz.ntmps158
 go_wp2
 go_ret
 exact⟨rfl,rfl⟩
theorem zeV(g:Sh.Glob)(l:List Fld)(hm:l.length≤maxLen)(hbig:l.length*40≤140737488355328):zC g 158 [.pv (.sl 4 (flR l))] [] (.own 1000 4 (flR l)) [.row 71 4 (flR l).length]:=by
 refine zfN (by decide) (z1k (by kernel_rfl)) fun w E us hG hl hr=> ?_;obtain⟨u,rfl⟩:∃u,us=[u]:=by
  match us,hl with
  |[u],_=>exact⟨u,rfl⟩
 have hu:=hr 0 _ u rfl rfl;cases hu with
 |pv hu=>
 obtain⟨news,F,h1,h2,h3,p,cap,rfl,h4⟩:=zhW (by decide) hu;refine⟨news,F,h1,?_⟩;cases p with
 |none=>
  have he:flR l=[]:=by
   rcases h4 with h4|⟨ad,h4,_⟩
   ·exact h4
   ·cases h4
  have hn0:news=[]:=List.eq_nil_of_length_eq_zero (by rw[h2,he];rfl);refine(zkG _ _ w).mono ?_;rintro e w' ⟨rfl,rfl⟩;rw[hn0,he];exact⟨_,rfl,World.ownsRow_nil _ _ _ _,.refl _ _⟩
 |some ad=>
  refine zkF ad _ cap news w h2 (by rw[z2e];exact hm) (by rw[z2e];exact hbig) ?_ h3;rcases h4 with h4|⟨ad',h4,h5⟩
  ·intro j u hj;have hn0:news=[]:=List.eq_nil_of_length_eq_zero (by rw[h2,h4];rfl);rw[hn0]at hj;simp at hj
  ·cases h4;exact h5
theorem zli(n:Nat)(w:World)(hn:0<n)(hbig:n*40≤140737488355328)(h63:n≤4611686018427387904):
  Calls Tryz.prog 205 #[.slice none 0 0,.int .i64 n] w fun e w'=>∃v',e=.returned v'∧w'.ownsRow w.heap.size 71 4 v' 0 []∧Below w.heap.size w w':=by
 have mixed:=ze;obtain⟨i0,hi,hz0,hz1,hz2⟩:=zfp zrx;have t22:=Tryz.underlying40;have t3:=Tryz.underlying3;have q1:¬((n:Int)<0):=by omega
 have q2:RowKit.wrap64 ((0:Int) - 0)=0:=by unfold RowKit.wrap64;omega
 have q3:RowKit.wrap64 ((n:Int) - 0)=(n:Int):=by unfold RowKit.wrap64;omega
 have q4:(n:Int)>0:=by omega
 have hrz:∀ty,(Builtin.append_ #[40,3] ty #[.slice none 0 0,.int .i64 (n:Int)]).run Tryz.prog w=
   .ok (.slice (some ⟨w.heap.size,0,none⟩) n (grownCap w n 0 71)) (w.drew.alloc (.cells ((#[]:Array Value)++Builtin.zeroCells (.agg #[.string ⟨#[]⟩,.int .i64 0,.int .i64 0,.bool false]:Value).cells n++Builtin.zeroCells (.agg #[.string ⟨#[]⟩,.int .i64 0,.int .i64 0,.bool false]:Value).cells (grownCap w n 0 71-n)) 71)):=fun ty=>by
  have h:=Lib.run_append_grow_zeros w 40 3 ty 71 i0 _ .i64 .i64 t22 t3 hi hz0 none 0 0 [] (run_firstCells_none w.drew i0.size 0 0 0) n hn (by omega) (by omega) (by omega) (by rw[hz2];omega) (by rw[hz2,Nat.zero_add];exact growslice_fits (by omega) (by omega));rw[Nat.zero_add]at h;exact h
 have hGn:n≤grownCap w n 0 71:=by have:=grownCap_ge w n 0 71;omega
 obtain⟨G,hG⟩:∃G,G=grownCap w n 0 71:=⟨_,rfl⟩
 rw[←hG]at hrz hGn;have hG63:G≤maxLen:=by
  have:=grownCap_le_maxLen w n 0 71 (by unfold maxLen;omega);rw[←hG]at this;exact this
 have hG64:G≤9223372036854775807:=hG63;clear hG
 go_enter Tryz.func205,Tryz.ntmps205
 go_wp2_with (at_builtin;refine Lib.wpList_append_run _ rfl _ _ _ _ rfl _ _ rfl rfl _ _ (hrz _) ?_)
 all_goals(go_ret;refine⟨_,rfl,⟨rfl,.inr ⟨w.heap.size,G,_,rfl,Nat.le_refl _,heap_alloc_new w.drew _,Nat.zero_le _,hG63,?_,by simp⟩⟩,((Below.refl _ w).drew).alloc (by simp) _⟩)
 all_goals(simp[Builtin.zeroCells,Value.cells];omega)
theorem zj6(w:World):Calls Tryz.prog 205 #[.slice none 0 0,.int .i64 0] w fun e w'=>∃v',e=.returned v'∧w'.ownsRow w.heap.size 71 4 v' 0 []∧Below w.heap.size w w':=by
 have mixed:=ze;have t22:=Tryz.underlying40;have q1:¬((0:Int)<0):=by omega
 have q2:RowKit.wrap64 ((0:Int) - 0)=0:=by unfold RowKit.wrap64;omega
 have q4:¬(0:Int)>0:=by omega
 go_enter Tryz.func205,Tryz.ntmps205
 go_wp2
 go_ret
 exact⟨_,rfl,World.ownsRow_nil _ _ _ _,.refl _ _⟩
theorem znK(g:Sh.Glob)(n:Nat)(hbig:n*40≤140737488355328)(h63:n≤4611686018427387904):zC g 205 [.pv (.v (.slice none 0 0)),I (n:Int)] [] (.own 1000 4 []) [.row 71 4 0]:=by
 refine zfN (es:=[]) (by decide) (z1k (by kernel_rfl)) fun w E us hG hl hr=> ?_;obtain⟨u,u',rfl⟩:∃u u',us=[u,u']:=by
  match us,hl with
  |[u,u'],_=>exact⟨u,u',rfl⟩
 obtain rfl:=val_rel (hr 0 _ u rfl rfl) rfl;obtain rfl:=zpp (hr 1 _ u' rfl rfl);refine⟨[],fun _ _=>undef,⟨by simp,by simp⟩,?_⟩;by_cases h:n=0
 ·subst h;exact zj6 w
 ·exact zli n w (by omega) hbig h63
theorem zlj(n:Nat)(w:World)(hn:0<n)(hbig:n*56≤140737488355328)(h63:n≤4611686018427387904):
  Calls Tryz.prog 206 #[.slice none 0 0,.int .i64 n] w fun e w'=>∃v',e=.returned v'∧w'.ownsRow w.heap.size 76 4 v' 0 []∧Below w.heap.size w w':=by
 have mixed:=ze;obtain⟨i0,hi,hz0,hz1,hz2⟩:=zfp ztm;have t22:=Tryz.underlying72;have t3:=Tryz.underlying3;have q1:¬((n:Int)<0):=by omega
 have q2:RowKit.wrap64 ((0:Int) - 0)=0:=by unfold RowKit.wrap64;omega
 have q3:RowKit.wrap64 ((n:Int) - 0)=(n:Int):=by unfold RowKit.wrap64;omega
 have q4:(n:Int)>0:=by omega
 have hrz:∀ty,(Builtin.append_ #[72,3] ty #[.slice none 0 0,.int .i64 (n:Int)]).run Tryz.prog w=
   .ok (.slice (some ⟨w.heap.size,0,none⟩) n (grownCap w n 0 76)) (w.drew.alloc (.cells ((#[]:Array Value)++Builtin.zeroCells (.agg #[.int .i64 0,.int .i64 0,.string ⟨#[]⟩,.slice none 0 0]:Value).cells n++Builtin.zeroCells (.agg #[.int .i64 0,.int .i64 0,.string ⟨#[]⟩,.slice none 0 0]:Value).cells (grownCap w n 0 76-n)) 76)):=fun ty=>by
  have h:=Lib.run_append_grow_zeros w 72 3 ty 76 i0 _ .i64 .i64 t22 t3 hi hz0 none 0 0 [] (run_firstCells_none w.drew i0.size 0 0 0) n hn (by omega) (by omega) (by omega) (by rw[hz2];omega) (by rw[hz2,Nat.zero_add];exact growslice_fits (by omega) (by omega));rw[Nat.zero_add]at h;exact h
 have hGn:n≤grownCap w n 0 76:=by have:=grownCap_ge w n 0 76;omega
 obtain⟨G,hG⟩:∃G,G=grownCap w n 0 76:=⟨_,rfl⟩
 rw[←hG]at hrz hGn;have hG63:G≤maxLen:=by
  have:=grownCap_le_maxLen w n 0 76 (by unfold maxLen;omega);rw[←hG]at this;exact this
 have hG64:G≤9223372036854775807:=hG63;clear hG
 go_enter Tryz.func206,Tryz.ntmps206
 go_wp2_with (at_builtin;refine Lib.wpList_append_run _ rfl _ _ _ _ rfl _ _ rfl rfl _ _ (hrz _) ?_)
 all_goals(go_ret;refine⟨_,rfl,⟨rfl,.inr ⟨w.heap.size,G,_,rfl,Nat.le_refl _,heap_alloc_new w.drew _,Nat.zero_le _,hG63,?_,by simp⟩⟩,((Below.refl _ w).drew).alloc (by simp) _⟩)
 all_goals(simp[Builtin.zeroCells,Value.cells];omega)
theorem zj7(w:World):Calls Tryz.prog 206 #[.slice none 0 0,.int .i64 0] w fun e w'=>∃v',e=.returned v'∧w'.ownsRow w.heap.size 76 4 v' 0 []∧Below w.heap.size w w':=by
 have mixed:=ze;have t22:=Tryz.underlying72;have q1:¬((0:Int)<0):=by omega
 have q2:RowKit.wrap64 ((0:Int) - 0)=0:=by unfold RowKit.wrap64;omega
 have q4:¬(0:Int)>0:=by omega
 go_enter Tryz.func206,Tryz.ntmps206
 go_wp2
 go_ret
 exact⟨_,rfl,World.ownsRow_nil _ _ _ _,.refl _ _⟩
theorem znL(g:Sh.Glob)(n:Nat)(hbig:n*56≤140737488355328)(h63:n≤4611686018427387904):zC g 206 [.pv (.v (.slice none 0 0)),I (n:Int)] [] (.own 1000 4 []) [.row 76 4 0]:=by
 refine zfN (es:=[]) (by decide) (z1k (by kernel_rfl)) fun w E us hG hl hr=> ?_;obtain⟨u,u',rfl⟩:∃u u',us=[u,u']:=by
  match us,hl with
  |[u,u'],_=>exact⟨u,u',rfl⟩
 obtain rfl:=val_rel (hr 0 _ u rfl rfl) rfl;obtain rfl:=zpp (hr 1 _ u' rfl rfl);refine⟨[],fun _ _=>undef,⟨by simp,by simp⟩,?_⟩;by_cases h:n=0
 ·subst h;exact zj7 w
 ·exact zlj n w (by omega) hbig h63
end
section
open Go.Sh.Cd1 Go.Sh.Cd7
def slR(ls:List (List (List PV))):List (List PV):=ls.map fun l=>[PV.sl 4 l]
theorem zmn(ls:List (List (List PV)))(i:Nat):(slR ls)[i]?=(ls[i]?).map fun l=>[PV.sl 4 l]:=by unfold slR;rw[List.getElem?_map]
theorem z7k(ls:List (List (List PV))):(slR ls).length=ls.length:=by unfold slR;rw[List.length_map]
theorem slV:(type_of% @zmn)∧(type_of% @z7k):=⟨@zmn,@z7k⟩
def cat(ls:List (List (List PV)))(i:Nat):List (List PV):=(ls.take i).flatten
theorem z7y{ls:List (List (List PV))}{i:Nat}{l:List (List PV)}(h:ls[i]?=some l):cat ls (i+1)=cat ls i++l:=by
 unfold cat;rw[List.take_add_one,h];simp
theorem zky(ls:List (List (List PV))):∀i,(cat ls i).length≤ls.flatten.length:=by
 intro i;unfold cat
 conv=>rhs;rw[←List.take_append_drop i ls,List.flatten_append,List.length_append]
 omega
theorem zhx(ls:List (List (List PV))):cat ls ls.length=ls.flatten:=by unfold cat;rw[List.take_length]
theorem ziI(g:Sh.Glob)(ls:List (List (List PV)))(hl:ls.length≤1000)(hf:ls.flatten.length≤1000000):zC g 160 [.pv (.sl 1 (slR ls))] [] (.pv (.sl 4 ls.flatten)) []:=by
 have HG:=znK g ls.flatten.length (by omega) (by omega);have hcat:=zky ls;have hall:=zhx ls;refine za4 tf_184 ?_;refine zk (σ:={i:Nat // i≤ls.length}) (fun i=>⟨[(0,.pv (.sl 1 (slR ls))),(3,I ((cat ls i.1).length:Int)),(9,.pv (.sl 1 (slR ls))),(10,I (ls.length:Int)),(11,I (i.1:Int))],[],[],[]⟩) (fun i=>ls.length-i.1) ⟨0,Nat.zero_le _⟩ ?_ ?_
 ·apply z0e<;>simp[leL,lk,sv,Nat.beq,I,S,ES.kill,has,drp,zn,z7k,cat]
 rintro⟨i,hi⟩;by_cases hlt:i<ls.length
 ·have d1:(i:Int)<(ls.length:Int):=by omega
  obtain⟨l,el⟩:∃l,ls[i]?=some l:=⟨_,gE hlt⟩
  have hc:=z7y el;have h1:=hcat (i+1);rw[hc,List.length_append]at h1;have w1:=wS i;have w2:IntKind.i64.wrap (((cat ls i).length:Int)+(l.length:Int))=((cat ls i).length:Int)+(l.length:Int):=wrap64 (by omega) (by omega);have d2:¬((cat ls i).length:Int)+(l.length:Int)<0:=by omega
  simp only[vW,seval,slV,d1,d2,el,w1,w2];refine zc ⟨i+1,hlt⟩ (by show ls.length-(i+1)<ls.length-i;omega) ?_;simp only[hc,List.length_append,Int.natCast_add];exact lwA
 have d1:¬(i:Int)<(ls.length:Int):=by omega
 obtain rfl:i=ls.length:=by omega
 rw[hall];simp only[vW,seval,slV,d1];refine z7 HG ?_;simp only[vW,seval,slV];refine zk (σ:={i:Nat // i≤ls.length}) (fun i=>⟨[(6,.own 2096 4 (cat ls i.1)),(25,.pv (.sl 1 (slR ls))),(26,I (ls.length:Int)),(27,I (i.1:Int))],[],[(2096,(71,4,(cat ls i.1).length))],[]⟩) (fun i=>ls.length-i.1) ⟨0,Nat.zero_le _⟩ ?_ ?_
 ·apply z0e<;>simp[leL,lk,sv,Nat.beq,I,S,ES.kill,has,drp,zn,z7k,cat]
 rintro⟨i,hi⟩;by_cases hlt:i<ls.length
 ·have d1:(i:Int)<(ls.length:Int):=by omega
  obtain⟨l,el⟩:∃l,ls[i]?=some l:=⟨_,gE hlt⟩
  have hc:=z7y el;have h1:=hcat (i+1);rw[hc,List.length_append]at h1;have w1:=wS i;simp only[vW,seval,slV,d1,el,w1];refine⟨⟨by omega,by unfold maxLen;omega⟩,zc ⟨i+1,hlt⟩ (by show ls.length-(i+1)<ls.length-i;omega) ?_⟩;simp only[hc,List.length_append];exact lwA
 have d1:¬(i:Int)<(ls.length:Int):=by omega
 obtain rfl:i=ls.length:=by omega
 rw[hall];simp only[vW,seval,slV,d1]
theorem zbA(g:Sh.Glob)(ls:List (List (List PV)))(hl:ls.length≤1000)(hf:ls.flatten.length≤1000000):zC g 161 [.pv (.sl 1 (slR ls))] [] (.pv (.sl 4 ls.flatten)) []:=by
 have HG:=znL g ls.flatten.length (by omega) (by omega);have hcat:=zky ls;have hall:=zhx ls;refine za4 tf_185 ?_;refine zk (σ:={i:Nat // i≤ls.length}) (fun i=>⟨[(0,.pv (.sl 1 (slR ls))),(3,I ((cat ls i.1).length:Int)),(9,.pv (.sl 1 (slR ls))),(10,I (ls.length:Int)),(11,I (i.1:Int))],[],[],[]⟩) (fun i=>ls.length-i.1) ⟨0,Nat.zero_le _⟩ ?_ ?_
 ·apply z0e<;>simp[leL,lk,sv,Nat.beq,I,S,ES.kill,has,drp,zn,z7k,cat]
 rintro⟨i,hi⟩;by_cases hlt:i<ls.length
 ·have d1:(i:Int)<(ls.length:Int):=by omega
  obtain⟨l,el⟩:∃l,ls[i]?=some l:=⟨_,gE hlt⟩
  have hc:=z7y el;have h1:=hcat (i+1);rw[hc,List.length_append]at h1;have w1:=wS i;have w2:IntKind.i64.wrap (((cat ls i).length:Int)+(l.length:Int))=((cat ls i).length:Int)+(l.length:Int):=wrap64 (by omega) (by omega);have d2:¬((cat ls i).length:Int)+(l.length:Int)<0:=by omega
  simp only[vW,seval,slV,d1,d2,el,w1,w2];refine zc ⟨i+1,hlt⟩ (by show ls.length-(i+1)<ls.length-i;omega) ?_;simp only[hc,List.length_append,Int.natCast_add];exact lwA
 have d1:¬(i:Int)<(ls.length:Int):=by omega
 obtain rfl:i=ls.length:=by omega
 rw[hall];simp only[vW,seval,slV,d1];refine z7 HG ?_;simp only[vW,seval,slV];refine zk (σ:={i:Nat // i≤ls.length}) (fun i=>⟨[(6,.own 2096 4 (cat ls i.1)),(25,.pv (.sl 1 (slR ls))),(26,I (ls.length:Int)),(27,I (i.1:Int))],[],[(2096,(76,4,(cat ls i.1).length))],[]⟩) (fun i=>ls.length-i.1) ⟨0,Nat.zero_le _⟩ ?_ ?_
 ·apply z0e<;>simp[leL,lk,sv,Nat.beq,I,S,ES.kill,has,drp,zn,z7k,cat]
 rintro⟨i,hi⟩;by_cases hlt:i<ls.length
 ·have d1:(i:Int)<(ls.length:Int):=by omega
  obtain⟨l,el⟩:∃l,ls[i]?=some l:=⟨_,gE hlt⟩
  have hc:=z7y el;have h1:=hcat (i+1);rw[hc,List.length_append]at h1;have w1:=wS i;simp only[vW,seval,slV,d1,el,w1];refine⟨⟨by omega,by unfold maxLen;omega⟩,zc ⟨i+1,hlt⟩ (by show ls.length-(i+1)<ls.length-i;omega) ?_⟩;simp only[hc,List.length_append];exact lwA
 have d1:¬(i:Int)<(ls.length:Int):=by omega
 obtain rfl:i=ls.length:=by omega
 rw[hall];simp only[vW,seval,slV,d1]
theorem zme{l:List V}{i:Nat}{v:V}(h:l[i]?=some v):V.rows (l.take (i+1))=V.rows (l.take i)++[V.row v]:=by rw[List.take_add_one,h];simp[V.rows]
theorem znC(g:Sh.Glob):∀(n:Nat) (l:List V),SizeOf.sizeOf l≤n→l.length≤1000→(∀v∈l,VFew v)→zC g 159 [.pv (.sl 4 (V.rows l))] [] (.own 1000 4 (V.rows l)) [.row 76 4 l.length]:=by
 intro n
 induction n with
 |zero=>intro l hs;cases l<;>simp at hs
 |succ n ih=>
  intro l hs hl hf;have IH:∀v∈l,zC g 159 [.pv (.sl 4 (V.rows v.l))] [] (.own 1000 4 (V.rows v.l)) [.row 76 4 v.l.length]:=fun v hv=>by
   have h1:=List.sizeOf_lt_of_mem hv;have h2:=hf v hv;refine ih v.l ?_ h2.len (fun y hy=>h2.sub hy);cases v with
   |mk k m s vl=>
    have:SizeOf.sizeOf vl<SizeOf.sizeOf (V.mk k m s vl):=by simp;omega
    simp only[Vl];omega
  refine zi9 tf_45 ?_;refine zk (σ:={i:Nat // i≤l.length}) (fun i=>⟨[(3,.own 3000 4 (V.rows (l.take i.1))),(6,.pv (.sl 4 (V.rows l))),(7,I (l.length:Int)),(8,I (i.1:Int))],[],[(3000,(76,4,i.1))],[]⟩) (fun i=>l.length-i.1) ⟨0,Nat.zero_le _⟩ ?_ ?_
  ·refine ES.Lw.trans ?_ (show ES.Lw ⟨[(3,zn),(6,.pv (.sl 4 (V.rows l))),(7,I (l.length:Int)),(8,I 0)],[],[],[]⟩ _ by exact lwA);refine ES.Lw.trans ?_ (z8p (k:=3) (d:=3000) (e:=76) (W:=4) (.inr (by decide)) rfl);exact z18 rfl
  rintro⟨i,hi⟩;by_cases hlt:i<l.length
  ·have d1:(i:Int)<(l.length:Int):=by omega
   obtain⟨v,ev⟩:∃v,l[i]?=some v:=⟨_,gE hlt⟩
   have w1:=wS i;have HI:=IH v (gM ev);have hm:=zme ev;have hlen:(l.take i).length=i:=by rw[List.length_take];omega
   simp only[vW,seval,d1,ev];refine z7 HI ?_;simp only[vW,seval,hlen,w1];refine⟨⟨by omega,by unfold maxLen;omega⟩,zc ⟨i+1,hlt⟩ (by show l.length-(i+1)<l.length-i;omega) ?_⟩;simp only[hm];apply z0e<;>simp[leL,lk,sv,Nat.beq,I,S,ES.kill,has,drp,zn,z2l]
  have d1:¬(i:Int)<(l.length:Int):=by omega
  obtain rfl:i=l.length:=by omega
  rw[List.take_length];simp only[vW,seval,d1]
theorem z4n(g:Sh.Glob)(l:List V)(hl:l.length≤1000)(hf:∀v∈l,VFew v):zC g 159 [.pv (.sl 4 (V.rows l))] [] (.own 1000 4 (V.rows l)) [.row 76 4 l.length]:=znC g _ l (Nat.le_refl _) hl hf
end
def flC(l:List Fld):List PV:=(flR l).flatten
theorem flW(l:List Fld):∀cs∈flR l,cs.length=4:=by
 intro cs h;unfold flR at h;obtain⟨f,_,rfl⟩:=List.mem_map.1 h;rfl
theorem z4m(l:List Fld):(flC l).length=l.length*4:=by unfold flC;rw[z2X (flW l),z2e]
theorem zrq{l:List Fld}{k j:Nat}{f:Fld}{p:PV}(h:l[k]?=some f)(hj:(flR1 f)[j]?=some p):(flC l)[k*4+j]?=some p:=by
 unfold flC;exact z7G (flW l) (by rw[zj0,h];rfl) hj
theorem z5V{f':Fld}{p:PV}{j:Nat}(hj:j<4):∀{l:List Fld} {k:Nat} {f:Fld},l[k]?=some f→(flR1 f).set j p=flR1 f'→(flC l).set (k*4+j) p=flC (l.set k f')
 |[],k,f,h,_=>by simp at h
 |g::l,0,f,h,he=>by
  obtain rfl:g=f:=by simpa using h
  show(flR1 g++flC l).set (0*4+j) p=flR1 f'++flC l;rw[Nat.zero_mul,Nat.zero_add,List.set_append_left _ _ (by exact hj),he]
 |g::l,k+1,f,h,he=>by
  show(flR1 g++flC l).set ((k+1)*4+j) p=flR1 g++flC (l.set k f');have:(k+1)*4+j=(flR1 g).length+(k*4+j):=by show _=4+_;omega
  rw[this,List.set_append_right _ _ (by omega),Nat.add_sub_cancel_left,z5V hj (by simpa using h) he]
section
open Go.Sh.Cd1 Go.Sh.Cd7
theorem zfX(y z:PV):∀{xs:List PV} {i:Nat},i+1<xs.length→List.take i (pvC xs)++[TV.pv y,TV.pv z]++List.drop (i+2) (pvC xs)=pvC ((xs.set i y).set (i+1) z)
 |[],i,h=>by simp at h
 |[a],i,h=>by simp at h
 |a::b::l,0,h=>rfl
 |a::b::l,i+1,h=>by
  have:=zfX y z (xs:=b::l) (i:=i) (by simpa using h);show TV.pv a::(List.take i (pvC (b::l))++[TV.pv y,TV.pv z]++List.drop (i+2) (pvC (b::l)))=TV.pv a::pvC (((b::l).set i y).set (i+1) z);rw[this]
theorem zkE(g:Sh.Glob)(l:List Fld)(hm:l.length≤1000)(hne:l≠[]):zC g 158 [.pv (.sl 4 (flR l))] [] (.bs 1000 0 l.length l.length) [.box (pvC (flC l))]:=by
 have h:=(zeV g l (by unfold maxLen;omega) (by omega)).boxed (fun h=>hne (by unfold flR at h;simpa using h)) (fun cs hcs=>⟨flW l cs hcs,fun c hc=>by
  unfold flR at hcs;obtain⟨f,_,rfl⟩:=List.mem_map.1 hcs;simp only[flR1,List.mem_cons,List.not_mem_nil,or_false]at hc;rcases hc with rfl|rfl|rfl|rfl<;>rfl⟩)
 rw[z2e]at h;exact h
theorem z7W{α:Type}{l:List α}{i:Nat}{x:α}(h:i<l.length):z14 l i [x]=l.set i x:=by unfold z14;rw[List.set_eq_take_append_cons_drop,if_pos h];simp
theorem zf8(l:List Fld)(i:Nat)(xs:List Fld):flR (z14 l i xs)=(flR l).take i++flR xs++(flR l).drop (i+1):=by unfold flR z14;simp[List.map_take,List.map_drop]
theorem has_at{fs:List Fld}{s:zB}(h:z0G fs s=true):∃f,fs[atV fs s]?=some f∧f.n=s∧fs.getD (atV fs s) z4B=f:=by
 unfold z0G at h;have h0:¬fieldAt fs s<0:=by simpa using h
 obtain⟨f,hf,hn⟩:=z2W (fun f:Fld=>f.n==s) fs (atV fs s) (by unfold atV fieldAt at*;omega);exact⟨f,hf,by simpa using hn,by rw[List.getD_eq_getElem?_getD,hf];rfl⟩
theorem zl4(g:Sh.Glob)(c:Cls)(h:Chg)(hk:h.k=1∨h.k=2∨h.k=3∨h.k=4∨h.k=5∨h.k=6)(hl:c.fs.length≤1000)(hh:h.k≠1→z0G c.fs h.f=true):zC g (zfb h.k) [.pv (.el (wkC c h))] [] (.pv (.sl 4 (flR (z0s c h)))) []:=by
 have HC:=zeV g c.fs (by unfold maxLen;omega) (by omega);have HK2:=fun ls h1 h2=>ziI g ls h1 h2;have hidx:h.k≠1→∃f,c.fs[atV c.fs h.f]?=some f∧c.fs.getD (atV c.fs h.f) z4B=f:=fun hn=>by
  obtain⟨f,h1,_,h2⟩:=has_at (hh hn);exact⟨f,h1,h2⟩
 have HB:=fun(hne:c.fs≠[])=>zkE g c.fs hl hne;unfold wkC z0s zfb;generalize tlT c h.t (zz c h.x h.t)=px at*;generalize tlT c h.t (zz c h.o h.t)=po at*;generalize z0G c.fs h.f=hb at*;generalize atV c.fs h.f=i at*;obtain⟨k,f,n,m,t,x,o⟩:=h;simp only[]at*;by_cases h1:k=1
 ·subst h1;rw[if_pos rfl,if_pos rfl];refine z27 tf_2 ?_;unfold wkP;simp only[vW,seval];left;refine z7 HC ?_;simp only[vW,seval,clV];refine⟨⟨by omega,by unfold maxLen;omega⟩,?_⟩;simp[flR,flR1]
 obtain⟨fd,ef,eg⟩:=hidx h1;rw[eg];have hi:=(gJ ef).1;have hne:c.fs≠[]:=fun e=>by rw[e]at hi;simp at hi
 have HB:=HB hne;rcases hk with rfl|rfl|rfl|rfl|rfl|rfl
 ·exact absurd rfl h1
 ·rw[if_neg (by decide),if_pos rfl,if_neg (by decide),if_pos rfl];have w1:=wS i;refine z27 tf_4 ?_;unfold wkP;have HD:=HK2 [(flR c.fs).take i,(flR c.fs).drop (i+1)] (by show 2≤1000;decide) (by simp[z2e];omega);simp only[slR,List.map_cons,List.map_nil]at HD;have tl:List.take c.fs.length (flR c.fs)=flR c.fs:=List.take_of_length_le (by rw[z2e];omega);simp only[vW,seval,w1,clV,tl,List.drop_zero];refine⟨⟨by omega,by omega⟩,by omega,?_⟩;refine z8 HD ?_;rw[zf8];simp[flR]
 ·rw[if_neg (by decide),if_neg (by decide),if_pos rfl,if_neg (by decide),if_neg (by decide),if_pos rfl];refine z23 ze tf_15 rfl ?_
  conv in SFunc.code _=>reduce
  unfold wkP;refine zE ze ?_;simp only[vW,seval];refine zE ze ?_;simp only[vW,seval];refine z8 HB ?_;refine zE ze ?_;simp only[vW,seval,clV];refine⟨by omega,by rw[z4m];omega,?_⟩;rw[zcR (by rw[z4m];omega),z5V (by decide) ef (f':=⟨n,fd.t,fd.ix⟩) rfl];refine z2t (z66 (k:=3) (d:=2036) (es:=flR (c.fs.set i ⟨n,fd.t,fd.ix⟩)) (c:=c.fs.length) rfl (flW _) (by show some _=some _;rw[z2e,List.length_set])) (z26 ze ?_);simp only[vW,seval];rw[z7W hi]
 ·rw[if_neg (by decide),if_neg (by decide),if_neg (by decide),if_pos rfl,if_neg (by decide),if_neg (by decide),if_neg (by decide),if_pos rfl];refine z23 ze tf_18 rfl ?_
  conv in SFunc.code _=>reduce
  unfold wkP;refine zE ze ?_;simp only[vW,seval];refine zE ze ?_;simp only[vW,seval];refine z8 HB ?_;refine zE ze ?_;have hs1:List.take (i*4+1) (pvC (flC c.fs))++[TV.pv (.v (.int .i64 t.k)),TV.pv (.v (.int .i64 t.o))]++List.drop (i*4+1+2) (pvC (flC c.fs))=pvC (flC (c.fs.set i ⟨fd.n,t,fd.ix⟩)):=by
   rw[zfX _ _ (by rw[z4m];omega),z5V (by decide) ef (f':=⟨fd.n,⟨t.k,fd.t.o⟩,fd.ix⟩) rfl,z5V (j:=2) (by decide) (f:=⟨fd.n,⟨t.k,fd.t.o⟩,fd.ix⟩) (by simp[hi]) (f':=⟨fd.n,t,fd.ix⟩) rfl,List.set_set]
  simp only[vW,seval,clV,hs1];refine⟨by omega,by rw[z4m];omega,by omega,by rw[z4m,List.length_set];omega,?_⟩;rw[zcR (by rw[z4m,List.length_set];omega),z5V (by decide) (f:=⟨fd.n,t,fd.ix⟩) (by simp[hi]) (f':=⟨fd.n,t,false⟩) rfl,List.set_set];refine z2t (z66 (k:=3) (d:=2036) (es:=flR (c.fs.set i ⟨fd.n,t,false⟩)) (c:=c.fs.length) rfl (flW _) (by show some _=some _;rw[z2e,List.length_set])) (z26 ze ?_);simp only[vW,seval];rw[z7W hi]
 ·rw[if_neg (by decide),if_neg (by decide),if_neg (by decide),if_neg (by decide),if_pos rfl,if_neg (by decide),if_neg (by decide),if_neg (by decide),if_neg (by decide),if_pos rfl];have w1:=wS i;refine z27 tf_16 ?_;unfold wkP;have HD:=HK2 [(flR c.fs).take i,flR [⟨n,t,false⟩,⟨m,t,false⟩],(flR c.fs).drop (i+1)] (by show 3≤1000;decide) (by simp[flR];omega);simp only[slR,List.map_cons,List.map_nil,flR,flR1]at HD;have tl:List.take c.fs.length (flR c.fs)=flR c.fs:=List.take_of_length_le (by rw[z2e];omega);simp only[vW,seval,w1,clV,tl,List.drop_zero];refine⟨⟨by omega,by omega⟩,by omega,?_⟩;refine z8 HD ?_;rw[zf8];simp[flR,flR1]
 ·rw[if_neg (by decide),if_neg (by decide),if_neg (by decide),if_neg (by decide),if_neg (by decide),if_neg (by decide),if_neg (by decide),if_neg (by decide),if_neg (by decide),if_neg (by decide)];refine z23 ze tf_7 rfl ?_
  conv in SFunc.code _=>reduce
  unfold wkP;refine zE ze ?_;simp only[vW,seval];refine zE ze ?_;simp only[vW,seval];refine z8 HB ?_;refine zE ze ?_;have hg:(pvC (flC c.fs))[i*4+3]?=some (TV.pv (.v (.bool fd.ix))):=by rw[zqo,zrq ef (j:=3) (p:=.v (.bool fd.ix)) rfl];rfl
  simp only[vW,seval,clV,hg];refine⟨by omega,by omega,by rw[z4m];omega,?_⟩;rw[zcR (by rw[z4m];omega),z5V (by decide) ef (f':=⟨fd.n,fd.t, !fd.ix⟩) rfl];refine z2t (z66 (k:=3) (d:=2036) (es:=flR (c.fs.set i ⟨fd.n,fd.t, !fd.ix⟩)) (c:=c.fs.length) rfl (flW _) (by show some _=some _;rw[z2e,List.length_set])) (z26 ze ?_);simp only[vW,seval];rw[z7W hi]
def z8n(g:Sh.Glob)(vals:List V):Prop:=zC g 159 [.pv (.sl 4 (V.rows vals))] [] (.bs 1000 0 vals.length vals.length) [.box (pvC (V.rows vals).flatten)]
theorem za5(m:Nat)(c:Cls)(t:Ty)(x:Tl)(vals:List V)(hx:x.is=true)(hs:∀e,x=.ev e→ESmall e)(hc:ClsOk c)(hf:∀v∈vals,VFew v∧VOk v)(hl:vals.length≤1000):
  (∃f p,tlT c t x=.fn (.func f) [] [p]∧zC (glE m) f [.pv (.sl 4 (V.rows vals)),.pv p] [] (tv (x.val c t vals)) [])∨(∃f p q,tlT c t x=.fn (.func f) [] [p,q]∧zC (glE m) f [.pv (.sl 4 (V.rows vals)),.pv p,.pv q] [] (tv (x.val c t vals)) []):=by
 cases x with
 |no=>cases hx
 |zero=>exact .inl ⟨_,_,rfl,zkb (glE m) t vals⟩
 |ev e=>exact .inr ⟨_,_,_,rfl,zkc m c e vals hc (hs e rfl) hf (by omega)⟩
theorem zdN(l:List V)(i:Nat)(xs:List V):V.rows (z14 l i xs)=(V.rows l).take i++V.rows xs++(V.rows l).drop (i+1):=by simp only[z1e];unfold z14;simp[List.map_take,List.map_drop]
theorem rows_take'(l:List V)(i:Nat):V.rows (l.take i)=(V.rows l).take i:=by simp only[z1e,List.map_take]
theorem rows_drop'(l:List V)(i:Nat):V.rows (l.drop i)=(V.rows l).drop i:=by simp only[z1e,List.map_drop]
theorem zoR(m:Nat)(c:Cls)(h:Chg)(vals:List V)(hx:(zz c h.x h.t).is=true)(hs:∀e,zz c h.x h.t=.ev e→ESmall e)(hc:ClsOk c)(hf:∀v∈vals,VFew v∧VOk v)(hl:vals.length≤1000):
  zC (glE m) 119 [.pv (.el (wkC c h)),.pv (.sl 4 (V.rows vals))] [] (.pv (.sl 4 (V.rows (vals++[(zz c h.x h.t).val c h.t vals])))) []:=by
 have HF:=z4n (glE m) vals hl (fun v hv=>(hf v hv).1);have HT:=za5 m c h.t _ vals hx hs hc hf hl;unfold wkC;generalize(zz c h.x h.t).val c h.t vals=r at*;generalize tlT c h.t (zz c h.x h.t)=px at*;generalize tlT c h.t (zz c h.o h.t)=po at*;refine z27 tf_3 ?_;unfold wkP;rcases HT with⟨f,p,rfl,HT⟩|⟨f,p,q,rfl,HT⟩
 ·simp only[vW,seval];left;refine z8 HF ?_;(with_reducible apply zr);exact kv;exact HT;rfl;exact kv;simp only[vW,seval];refine⟨⟨by omega,by unfold maxLen;omega⟩,?_⟩;rw[z4r]
 ·simp only[vW,seval];left;refine z8 HF ?_;(with_reducible apply zr);exact kv;exact HT;rfl;exact kv;simp only[vW,seval];refine⟨⟨by omega,by unfold maxLen;omega⟩,?_⟩;rw[z4r]
theorem zdU(g:Sh.Glob)(c:Cls)(h:Chg)(vals:List V)(hf:∀v∈vals,VFew v∧VOk v)(hl:vals.length≤1000):
  zC g 125 [.pv (.el (wkC c h)),.pv (.sl 4 (V.rows vals))] [] (.pv (.sl 4 (V.rows vals))) []:=by
 have HF:=z4n g vals hl (fun v hv=>(hf v hv).1);refine za4 tf_8 ?_;exact zf HF
theorem zmG(g:Sh.Glob)(c:Cls)(h:Chg)(vals:List V)(hf:∀v∈vals,VFew v∧VOk v)(hl:vals.length≤1000)(hi:atV c.fs h.f<vals.length):
  zC g 122 [.pv (.el (wkC c h)),.pv (.sl 4 (V.rows vals))] [] (.pv (.sl 4 (V.rows (z14 vals (atV c.fs h.f) [])))) []:=by
 unfold wkC;generalize tlT c h.t (zz c h.x h.t)=px at*;generalize tlT c h.t (zz c h.o h.t)=po at*;generalize atV c.fs h.f=i at*;have H1:=z4n g (vals.take i) (by rw[List.length_take];omega) (fun v hv=>(hf v (List.mem_of_mem_take hv)).1);have H2:=z4n g (vals.drop (i+1)) (by rw[List.length_drop];omega) (fun v hv=>(hf v (List.mem_of_mem_drop hv)).1);have HK:=zbA g [(V.rows vals).take i,(V.rows vals).drop (i+1)] (by show 2≤1000;decide) (by simp[z1u];omega);simp only[slR,List.map_cons,List.map_nil]at HK;rw[rows_take']at H1;rw[rows_drop']at H2;have tl:List.take vals.length (V.rows vals)=V.rows vals:=List.take_of_length_le (by rw[z1u];omega);have w1:=wS i;refine z27 tf_5 ?_;unfold wkP;simp only[vW,seval,w1,tl,List.drop_zero];refine⟨⟨by omega,by omega⟩,?_⟩;refine z7 H1 ?_;simp only[vW,seval,w1,tl,List.drop_zero];refine⟨by omega,?_⟩;refine z8 H2 ?_;refine z8 HK ?_;rw[zdN];simp[V.rows_nil]
theorem zmH(m:Nat)(c:Cls)(h:Chg)(vals:List V)(hb:z8n (glE m) vals)(hx:(zz c h.x h.t).is=true)(hs:∀e,zz c h.x h.t=.ev e→ESmall e)(hc:ClsOk c)(hf:∀v∈vals,VFew v∧VOk v)(hl:vals.length≤1000)(hi:atV c.fs h.f<vals.length):
  zC (glE m) 128 [.pv (.el (wkC c h)),.pv (.sl 4 (V.rows vals))] [] (.pv (.sl 4 (V.rows (z14 vals (atV c.fs h.f) [(zz c h.x h.t).val c h.t vals])))) []:=by
 have HT:=za5 m c h.t _ vals hx hs hc hf hl;unfold z8n at hb;unfold wkC;generalize(zz c h.x h.t).val c h.t vals=r at*;generalize tlT c h.t (zz c h.x h.t)=px at*;generalize tlT c h.t (zz c h.o h.t)=po at*;generalize atV c.fs h.f=i at*;have hset:=zoS vals i r hi;have hln:(V.rows vals).flatten.length=vals.length*4:=by rw[z2X (zcf vals),z1u]
 have hput:=z7W (x:=r) hi;refine z23 ze tf_19 rfl ?_
 conv in SFunc.code _=>reduce
 unfold wkP;refine zE ze ?_;simp only[vW,seval];refine zE ze ?_;simp only[vW,seval];refine z8 hb ?_;refine zE ze ?_;rcases HT with⟨f,p,rfl,HT⟩|⟨f,p,q,rfl,HT⟩
 ·simp only[vW,seval];(with_reducible apply zr);exact kv;exact HT;rfl;exact kv;simp only[vW,seval,hset];refine⟨by omega,by rw[hln];omega,?_⟩;refine z2t (z66 (k:=5) (d:=2028) (es:=V.rows (vals.set i r)) (c:=vals.length) rfl (zcf _) (by show some _=some _;rw[z1u,List.length_set])) (z26 ze ?_);simp only[vW,seval];rw[hput]
 ·simp only[vW,seval];(with_reducible apply zr);exact kv;exact HT;rfl;exact kv;simp only[vW,seval,hset];refine⟨by omega,by rw[hln];omega,?_⟩;refine z2t (z66 (k:=5) (d:=2028) (es:=V.rows (vals.set i r)) (c:=vals.length) rfl (zcf _) (by show some _=some _;rw[z1u,List.length_set])) (z26 ze ?_);simp only[vW,seval];rw[hput]
theorem zkj(m:Nat)(c:Cls)(h:Chg)(vals:List V)(hx:(zz c h.x h.t).is=true)(ho:(zz c h.o h.t).is=true)(hs:∀e,zz c h.x h.t=.ev e→ESmall e)(hs':∀e,zz c h.o h.t=.ev e→ESmall e)(hc:ClsOk c)(hf:∀v∈vals,VFew v∧VOk v)(hl:vals.length≤1000)(hi:atV c.fs h.f<vals.length):
  zC (glE m) 131 [.pv (.el (wkC c h)),.pv (.sl 4 (V.rows vals))] [] (.pv (.sl 4 (V.rows (z14 vals (atV c.fs h.f) [(zz c h.x h.t).val c h.t vals,(zz c h.o h.t).val c h.t vals])))) []:=by
 have HT:=za5 m c h.t _ vals hx hs hc hf hl;have HU:=za5 m c h.t _ vals ho hs' hc hf hl;unfold wkC;generalize(zz c h.x h.t).val c h.t vals=r at*;generalize(zz c h.o h.t).val c h.t vals=u at*;generalize tlT c h.t (zz c h.x h.t)=px at*;generalize tlT c h.t (zz c h.o h.t)=po at*;generalize atV c.fs h.f=i at*;have H1:=z4n (glE m) (vals.take i) (by rw[List.length_take];omega) (fun v hv=>(hf v (List.mem_of_mem_take hv)).1);have H2:=z4n (glE m) (vals.drop (i+1)) (by rw[List.length_drop];omega) (fun v hv=>(hf v (List.mem_of_mem_drop hv)).1);have HK:=zbA (glE m) [(V.rows vals).take i,[[.v (.int .i64 r.k),.v (.int .i64 r.n),.v (.string (str r.s)),.sl 4 (V.rows r.l)],[.v (.int .i64 u.k),.v (.int .i64 u.n),.v (.string (str u.s)),.sl 4 (V.rows u.l)]],(V.rows vals).drop (i+1)] (by show 3≤1000;decide) (by simp[z1u];omega);simp only[slR,List.map_cons,List.map_nil]at HK;rw[rows_take']at H1;rw[rows_drop']at H2;have tl:List.take vals.length (V.rows vals)=V.rows vals:=List.take_of_length_le (by rw[z1u];omega);have w1:=wS i
 have hend:V.rows (z14 vals i [r,u])=(V.rows vals).take i++([[.v (.int .i64 r.k),.v (.int .i64 r.n),.v (.string (str r.s)),.sl 4 (V.rows r.l)],[.v (.int .i64 u.k),.v (.int .i64 u.n),.v (.string (str u.s)),.sl 4 (V.rows u.l)]]++(V.rows vals).drop (i+1)):=by
  rw[zdN];show _++[V.row r,V.row u]++_=_;rw[z2l r,z2l u,List.append_assoc]
 rw[hend];refine z27 tf_17 ?_;unfold wkP;rcases HT with⟨f,p,rfl,HT⟩|⟨f,p,q,rfl,HT⟩<;>rcases HU with⟨f',p',rfl,HU⟩|⟨f',p',q',rfl,HU⟩
 all_goals(
  simp only[vW,seval];(with_reducible apply zr);exact kv;exact HT;rfl;exact kv;simp only[vW,seval];(with_reducible apply zr);exact kv;exact HU;rfl;exact kv;simp only[vW,seval,tl,List.drop_zero];refine⟨⟨by omega,by omega⟩,?_⟩;refine z7 H1 ?_;simp only[vW,seval,w1,tl,List.drop_zero];refine⟨by omega,?_⟩;refine z8 H2 ?_;refine z8 HK ?_;simp)
def zbN:TV:=.agg [.pv (.v .nilFunc),.pv (.v .nilFunc),.pv (.v .nilFunc)]
theorem zeG(m:Nat)(c:Cls)(h:Chg)(hc:ClsOk c)(hh:ChOk m h)(hno:(zd c&&z04 h)=false):zC (glE m) 61 [clT c,chT h] [] (.tuple [zbN,B false]) []:=by
 have HR:=z0k (glE m) c hc;have HW:=z40 m h hh;generalize zd c=r at*;generalize z04 h=w at*;refine za tf_43 ?_;unfold clT chT B zbN at*;cases r
 ·simp only[vW,seval];exact zf HR
 ·cases w
  ·simp only[vW,seval];refine z8 HR ?_;exact zf HW
  ·cases hno
theorem zpC(m:Nat)(c:Cls)(h:Chg)(hc:ClsOk c)(hh:ChOk m h)(hr:zd c=true)(hw:z04 h=true)(hk:h.k=1∨h.k=2∨h.k=3∨h.k=4∨h.k=5∨h.k=6)(j:Nat)
  (hj:findKs (TypeDesc.int .i64) (.int .i64 h.k) kdK 0=some (some j)) (hx:(kdL (wkC c h))[j]?=some (kdT (wkC c h) (zfB h.k) (zfb h.k) (zgv h.k))):
  zC (glE m) 61 [clT c,chT h] [] (.tuple [kdT (wkC c h) (zfB h.k) (zfb h.k) (zgv h.k),B (z0H c h)]) []:=by
 have HR:=z0k (glE m) c hc;have HW:=z40 m h hh;rw[hr]at HR;rw[hw]at HW;have HF:=z65 (glE m) c h.f hc.len;rw[zdn]at HF;have H1:=zdQ m c h.x h.t hh.x hc;have H2:=zdQ m c h.o h.t hh.o hc;have HM:=zrK (glE m) c h hk hc.len;have HK:=znS (glE m) (wkC c h);unfold kdL kdT fnW at hx;unfold kdL kdT fnW at HK;unfold kdT fnW;have hps:(wkC c h).map TV.pv=[S (str c.n),.pv (.sl 4 (flR c.fs)),I h.k,S (str h.f),S (str h.n),S (str h.m),I h.t.k,I h.t.o,S (str h.x),S (str h.o),I (atV c.fs h.f:Int),.pv (.v (.bool (z0G c.fs h.f))),.pv (tlT c h.t (zz c h.x h.t)),.pv (tlT c h.t (zz c h.o h.t))]:=rfl;have tc:∀x,(TV.pv (tlT c h.t x)).cells=some [.pv (tlT c h.t x)]:=fun x=>by cases x<;>rfl
 refine z23 ze tf_43 rfl ?_
 conv in SFunc.code _=>reduce
 generalize wkC c h=ps at*;unfold clT chT tyT B at*;refine zE ze ?_;simp only[vW,seval];refine zE ze ?_;simp only[vW,seval];refine z8 HR ?_;refine z8 HW ?_;refine zE ze ?_;simp only[vW,seval];refine zE ze ?_;simp only[vW,seval];refine z8 HF ?_;refine zE ze ?_;simp only[vW,seval];refine z7 H1 ?_;simp only[vW,seval,tc];refine zE ze ?_;simp only[vW,seval];refine z7 H2 ?_;simp only[vW,seval,tc];refine z2t (zrt (k:=6) (d:=20) (ps:=ps) (show lk _ 20=_ from congrArg some hps.symm) rfl) (z26 ze ?_);simp only[vW,seval];refine z7 HK ?_;simp only[vW,seval,hj,hx];(with_reducible apply zr);exact kv;exact HM;rfl;exact kv;simp only[vW,seval]
theorem zgz{cs ds:List TV}(hl:cs.length=ds.length)(h:∀(j:Nat) c d,cs[j]?=some c→ds[j]?=some d→Wk c d):Wk (.tuple cs) (.tuple ds):=by
 intro w E r v hr;cases hr with
 |tuple cs vs hl' hv=>
  refine .tuple ds vs (hl▸hl') (fun j d v hd hv'=> ?_);have hj:j<cs.length:=by
   rcases Nat.lt_or_ge j ds.length with h|h
   ·omega
   ·rw[List.getElem?_eq_none h]at hd;cases hd
  exact h j _ d (gE hj) hd w E r v (hv j _ v (gE hj) hv')
theorem z6m{a b x y:TV}(h:Wk a b)(h':Wk x y):Wk (.tuple [a,x]) (.tuple [b,y]):=zgz rfl (fun j p q hp hq=>by
 match j with
 |0=>simp at hp hq;subst hp;subst hq;exact h
 |1=>simp at hp hq;subst hp;subst hq;exact h'
 |j+2=>simp at hp)
theorem zkl(s:zB):Wk (.agg [S (str s),zn]) (clT ⟨s,[]⟩):=z6l rfl (fun j p q hp hq=>by
 match j with
 |0=>simp at hp hq;subst hp;subst hq;exact .refl _
 |1=>simp at hp hq;subst hp;subst hq;exact z2u 4
 |j+2=>simp at hp)
def z60(r:Cls×Int):TV:=.tuple [clT r.1,I r.2]
def zpt(r:List V×Int):TV:=.tuple [.pv (.sl 4 (V.rows r.1)),I r.2]
theorem zgx{h:Chg}(hw:z04 h=true):h.k=1∨h.k=2∨h.k=3∨h.k=4∨h.k=5∨h.k=6:=by
 unfold z04 at hw;simp only[Bool.and_eq_true]at hw;have:=hw.1.1.1.1.1.1;unfold z0A at this;by_cases h1:h.k=1
 ·exact .inl h1
 by_cases h2:h.k=2∨h.k=6
 ·omega
 by_cases h3:h.k=3
 ·omega
 by_cases h4:h.k=4
 ·omega
 by_cases h5:h.k=5
 ·omega
 rw[if_neg h1,if_neg h2,if_neg h3,if_neg h4,if_neg h5]at this;cases this
theorem zcn{m:Nat}{c:Cls}{s:zB}{t:Ty}(hs:TxOk m s):∀e,zz c s t=.ev e→ESmall e:=by
 intro e h;unfold zz at h;split at h
 ·cases h
 ·rename_i hne;split at h
  ·cases h
  ·split at h
   ·cases h;exact hs.sm hne
   ·cases h
theorem zd8(m:Nat)(c:Cls)(h:Chg)(hc:ClsOk c)(hh:ChOk m h)(hr:zd c=true)(hw:z04 h=true):
  zC (glE m) 61 [clT c,chT h] [] (.tuple [kdT (wkC c h) (zfB h.k) (zfb h.k) (zgv h.k),B (z0H c h)]) []:=by
 have hk:=zgx hw;have H:=zpC m c h hc hh hr hw hk;rcases hk with hk|hk|hk|hk|hk|hk
 ·exact H 0 (by rw[hk];rfl) (by rw[hk];rfl)
 ·exact H 1 (by rw[hk];rfl) (by rw[hk];rfl)
 ·exact H 2 (by rw[hk];rfl) (by rw[hk];rfl)
 ·exact H 3 (by rw[hk];rfl) (by rw[hk];rfl)
 ·exact H 4 (by rw[hk];rfl) (by rw[hk];rfl)
 ·exact H 5 (by rw[hk];rfl) (by rw[hk];rfl)
theorem zhT{c:Cls}{h:Chg}(hm:z0H c h=true)(h1:h.k≠1):z0G c.fs h.f=true:=by
 unfold z0H at hm;rw[if_neg h1]at hm;split at hm
 ·exact hm
 split at hm
 ·simp only[Bool.and_eq_true]at hm;exact hm.1
 split at hm
 ·simp only[Bool.and_eq_true]at hm;exact hm.1
 split at hm
 ·simp only[Bool.and_eq_true]at hm;exact hm.1.1.1.1.1.1
 ·simp only[Bool.and_eq_true]at hm;exact hm.1
theorem zru{fs:List Fld}{s:zB}(h:z0G fs s=true):atV fs s<fs.length:=by
 obtain⟨f,hf,_⟩:=has_at h;exact(gJ hf).1
theorem zoQ(m:Nat)(c:Cls)(h:Chg)(vals:List V)(hh:ChOk m h)(hw:z04 h=true)(hm:z0H c h=true)(hB:h.k=4→vals≠[]→z8n (glE m) vals)(hc:ClsOk c)(hf:∀v∈vals,VFew v∧VOk v)(hl:vals.length≤1000)(he:vals.length=c.fs.length):
  zC (glE m) (zgv h.k) [.pv (.el (wkC c h)),.pv (.sl 4 (V.rows vals))] [] (.pv (.sl 4 (V.rows (z1F c h vals)))) []:=by
 have hs:=fun e=>zcn (c:=c) (t:=h.t) hh.x e;have hs':=fun e=>zcn (c:=c) (t:=h.t) hh.o e;have hi:h.k≠1→atV c.fs h.f<vals.length:=fun h1=>by rw[he];exact zru (zhT hm h1)
 unfold zgv z1F;rcases zgx hw with hk|hk|hk|hk|hk|hk
 ·rw[hk,if_pos rfl,if_pos rfl];unfold z0H at hm;rw[if_pos hk]at hm;simp only[Bool.and_eq_true]at hm;exact zoR m c h vals hm.2 hs hc hf hl
 ·rw[hk,if_neg (by decide),if_pos rfl,if_neg (by decide),if_pos rfl];exact zmG (glE m) c h vals hf hl (hi (by omega))
 ·rw[hk,if_neg (by decide),if_neg (by decide),if_pos rfl,if_neg (by decide),if_neg (by decide),if_neg (by decide),if_neg (by decide)];exact zdU (glE m) c h vals hf hl
 ·unfold z0H at hm;rw[hk,if_neg (by decide),if_neg (by decide),if_neg (by decide),if_pos rfl]at hm;simp only[Bool.and_eq_true]at hm;rw[hk,if_neg (by decide),if_neg (by decide),if_neg (by decide),if_pos rfl,if_neg (by decide),if_neg (by decide),if_pos rfl];exact zmH m c h vals (hB hk (by intro e;have:=hi (by omega);rw[e]at this;simp at this)) hm.2 hs hc hf hl (hi (by omega))
 ·unfold z0H at hm;rw[hk,if_neg (by decide),if_neg (by decide),if_neg (by decide),if_neg (by decide),if_pos rfl]at hm;simp only[Bool.and_eq_true]at hm;rw[hk,if_neg (by decide),if_neg (by decide),if_neg (by decide),if_neg (by decide),if_pos rfl,if_neg (by decide),if_neg (by decide),if_neg (by decide),if_pos rfl];exact zkj m c h vals hm.1.2 hm.2 hs hs' hc hf hl (hi (by omega))
 ·rw[hk,if_neg (by decide),if_neg (by decide),if_neg (by decide),if_neg (by decide),if_neg (by decide),if_neg (by decide),if_neg (by decide),if_neg (by decide),if_neg (by decide)];exact zdU (glE m) c h vals hf hl
theorem z61(m:Nat)(c:Cls)(h:Chg)(hc:ClsOk c)(hh:ChOk m h)(hl:c.fs.length≤1000):zC (glE m) 32 [clT c,chT h] [] (z60 (z0h c h)) []:=by
 have HR:=z0k (glE m) c hc;have HN:=zeG m c h hc hh;have HY:=zd8 m c h hc hh;unfold z0h okV;cases hr:zd c
 ·rw[hr]at HR;refine SCalls.out ?_ (z6m (zkl []) (.refl _));refine za tf_38 ?_;unfold clT chT zn B at*;simp only[vW,seval];refine z8 HR ?_;rfl
 rw[hr]at HR;cases hw:z04 h
 ·have HN:=HN (by rw[hr,hw];rfl);refine SCalls.out ?_ (z6m (zkl []) (.refl _));refine za tf_38 ?_;unfold clT chT zbN zn B at*;simp only[vW,seval];refine z8 HR ?_;refine z8 HN ?_;rfl
 have HY:=HY hr hw;cases hm:z0H c h
 ·rw[hm]at HY;refine SCalls.out ?_ (z6m (zkl []) (.refl _));refine za tf_38 ?_;unfold clT chT kdT fnW zn B at*;simp only[vW,seval];refine z8 HR ?_;refine z8 HY ?_;rfl
 ·rw[hm]at HY;have HF:=zl4 (glE m) c h (zgx hw) hl (zhT hm);refine za tf_38 ?_;unfold z60 clT chT kdT fnW B at*;simp only[vW,seval];refine z8 HR ?_;refine z8 HY ?_;(with_reducible apply zr);exact kv;exact HF;rfl;exact kv;simp only[vW,seval]
theorem ze1(m:Nat)(c:Cls)(h:Chg)(vals:List V)(hc:ClsOk c)(hh:ChOk m h)(hB:h.k=4→vals≠[]→z8n (glE m) vals)(hf:∀v∈vals,VFew v∧VOk v)(hl:vals.length≤1000):zC (glE m) 81 [clT c,chT h,.pv (.sl 4 (V.rows vals))] [] (zpt (z6M c h vals)) []:=by
 have HC:=zch (z5y m c vals hc (fun v hv=>⟨(hf v hv).2,by have:=(hf v hv).1.len;unfold maxLen;omega⟩) (by omega));have HN:=zeG m c h hc hh;have HY:=zd8 m c h hc hh;have hck:(check c vals).2=0→zd c=true∧vals.length=c.fs.length:=by
  intro h0;unfold check at h0;split at h0
  ·cases h0
  ·rename_i hr;split at h0
   ·cases h0
   ·rename_i he;exact⟨by simpa using hr,by omega⟩
 unfold z6M;by_cases h0:(check c vals).2=0
 ·obtain⟨hr,he⟩:=hck h0;rw[if_neg (by simpa using h0)];generalize check c vals=k at*;obtain⟨k1,k2⟩:=k;simp only at h0;subst h0;unfold okV;cases hw:z04 h
  ·have HN:=HN (by rw[hr,hw];rfl);rw[show(!(zd c&&false&&z0H c h))=true by simp,if_pos rfl];refine SCalls.out ?_ (z6m (z2u 4) (.refl _));refine za tf_42 ?_;unfold z62 clT chT zbN B at*;simp only[vW,seval];refine z8 HC ?_;exact zf HN
  have HY:=HY hr hw;cases hm:z0H c h
  ·rw[hm]at HY;rw[show(!(zd c&&true&&false))=true by simp,if_pos rfl];refine SCalls.out ?_ (z6m (z2u 4) (.refl _));refine za tf_42 ?_;unfold z62 clT chT kdT fnW B at*;simp only[vW,seval];refine z8 HC ?_;exact zf HY
  ·rw[hm]at HY;have HV:=zoQ m c h vals hh hw hm hB hc hf hl he;rw[hr];refine za tf_42 ?_;unfold zpt z62 clT chT kdT fnW B at*;simp only[vW,seval];refine z8 HC ?_;refine z8 HY ?_;(with_reducible apply zr);exact kv;exact HV;rfl;exact kv;simp only[vW,seval]
 ·rw[if_pos h0];refine SCalls.out ?_ (z6m (z2u 4) (.refl _));generalize check c vals=k at*;refine za tf_42 ?_;unfold z62 clT chT B at*;simp only[vW,seval];refine z7 HC ?_;simp only[vW,seval,h0]
end
section
open Go.Sh.Cd1 Go.Sh.Cd5
theorem z6Y(g:Sh.Glob)(s:zB):zC g 178 [S (str s)] [] (I (zt s)) []:=by
 refine za tf_144 ?_;have q1:=bS [108,101,110];have q2:=bS [116,101,120,116];have q3:=bS [110,117,109];have q4:=bS [108,101,102,116];have q5:=bS [114,105,103,104,116];have q6:=bS [102,114,111,109];have q7:=bS [102,105,110,100];have q8:=bS [109,105,110];have q9:=bS [109,97,120];have q10:=bS [105,102];have hb:∀t:zB,(s==t)=decide (s=t):=fun t=>by rw[Bool.eq_iff_iff];simp
 unfold zt;simp only[vW,seval,q1,q2,q3,q4,q5,q6,q7,q8,q9,q10,hb]
 repeat' (first|(apply And.intro)|(intro _))
 all_goals simp_all
theorem z6Z(g:Sh.Glob)(s:zB):zC g 149 [S (str s)] [] (I (zM s)) []:=by
 refine za tf_145 ?_;have q1:=bS [42];have q2:=bS [47];have q3:=bS [37];have q4:=bS [43];have q5:=bS [45];have q6:=bS [38];have q7:=bS [61];have q8:=bS [60,62];have q9:=bS [60];have q10:=bS [60,61];have q11:=bS [62];have q12:=bS [62,61];have hb:∀t:zB,(s==t)=decide (s=t):=fun t=>by rw[Bool.eq_iff_iff];simp
 unfold zM;simp only[vW,seval,q1,q2,q3,q4,q5,q6,q7,q8,q9,q10,q11,q12,hb]
 repeat' (first|(apply And.intro)|(intro _))
 all_goals simp_all
end
end Go.Proofs.YtpmlapgbmgbilaaGreatDoor
end

section
namespace Go.Sh.Cd2
open Go Go.Sh
abbrev gQ(a:GA):Prop:=gT Go.Proofs.Tryz.prog a
theorem gK{a:GA}(h:gQ a:=by unfold gQ gT;kernel_rfl):gQ a:=h
theorem tf_136:gQ ⟨176,138,[],[],[[0,2],[6],[9],[1,7008,10023],[8,25],[1,7,24,26044],[24,46],[7,45,47049],[1,3,50067],[45,69],[70],[1,7,68,71099],[7,68,101],[100,102114],[1,115],[2,115],[116119],[2,121122,137],[120,123128],[1,4,129],[2,129135],[5,136],[1,4,137],[1,4],[1,100]],[.tmp 2],false⟩:=gK
noncomputable def funcs:Nat→Option SFunc
 |_=>none
end Go.Sh.Cd2
end
