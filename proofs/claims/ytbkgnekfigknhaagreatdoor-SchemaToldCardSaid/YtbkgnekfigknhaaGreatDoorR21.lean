/- Merged texts: Zg3 RegIn Zg4 S23 S27 Zg5 Bb Zg6. No statement of the program is proved here. -/
import Derived.Test.YtbkgnekfigknhaaGreatDoorR20
import Derived.Shelf.Strconv.AtoiAll
import Derived.StillTailTactics
import Derived.TacticsIn
import Derived.RangeFuncCalls
import Derived.Lib.AtoiAllCases
import Derived.Lib.AtoiErrMem
import Derived.RangeFuncWrites
set_option linter.unusedSimpArgs false
set_option linter.unusedVariables false
set_option maxRecDepth 100000
set_option maxHeartbeats 8000000
section
namespace Go.Proofs.YtbkgnekfigknhaaGreatDoor
open Go Go.RowKit Go.Mor Go.Sh Go.Sh.Cd1 Go.Sh.Cd6
theorem zb1(g:Sh.Glob)(l:zB)(hl:l.length≤4611686018427387904):zC g 104 [S (str l)] [] (I (z16 l:Int)) []:=by
 obtain⟨R,hR⟩:∃R,z16 l=R:=⟨_,rfl⟩
 rw[hR];have hle:=zgb _ l (Nat.le_refl _);refine z0w tf_90 ?_;refine zp (σ:={q:Nat×Nat // q.1≤l.length∧q.2+z16 (l.drop q.1)=R}) (fun q=>⟨[(3,I (q.1.2:Int)),(5,.it 5)],[],[],[(5,(str l,q.1.1))]⟩) (fun q=>l.length-q.1.1) ⟨(0,0),Nat.zero_le _,by simpa using hR⟩ ?_ ?_
 ·exact lwA
 rintro⟨⟨p,n⟩,hp,hd⟩;simp only at hp hd;rw[zc6]at hd;by_cases hlt:p<l.length
 ·have hne:l.drop p≠[]:=by rw[Ne,List.drop_eq_nil_iff];omega
  rw[if_neg hne,List.drop_drop]at hd;have hw:=z2E hne;rw[List.length_drop]at hw;have w1:=wS n;simp only[vW,seval,hlt,z3B,w1];refine zc ⟨(p+(Lib.decodeL (l.drop p)).2,n+1),by omega,by simp only;omega⟩ (by show l.length-(p+_)<l.length-p;omega) ?_;exact lwA
 ·have hn:l.drop p=[]:=List.drop_eq_nil_of_le (by omega);rw[if_pos hn]at hd;simp only[vW,seval,hlt];rw[←hd];rfl
theorem z8j(g:Sh.Glob)(l:zB)(m:Int)(hl:l.length≤4611686018427387904):zC g 107 [S (str l),I m] [] (I (z1S l m:Int)) []:=by
 obtain⟨R,hR⟩:∃R,z1S l m=R:=⟨_,rfl⟩
 rw[hR];rw[zk9]at hR;refine z0w tf_69 ?_;refine zp (σ:={q:Nat×Nat // q.1≤l.length∧q.2≤q.1∧zaw (l.drop q.1) q.1 q.2 m=R}) (fun q=>⟨[(0,S (str l)),(1,I m),(5,I (q.1.2:Int)),(8,.it 8)],[],[],[(8,(str l,q.1.1))]⟩) (fun q=>l.length-q.1.1) ⟨(0,0),Nat.zero_le _,Nat.zero_le _,by simpa using hR⟩ ?_ ?_
 ·exact lwA
 rintro⟨⟨p,n⟩,hp,hnp,hd⟩;simp only at hp hd hnp;rw[zd0]at hd;by_cases hlt:p<l.length
 ·have hne:l.drop p≠[]:=by rw[Ne,List.drop_eq_nil_iff];omega
  rw[if_neg hne,List.drop_drop]at hd;have hw:=z2E hne;rw[List.length_drop]at hw;have w1:=wS n;by_cases h:m≤(n:Int)
  ·rw[if_pos h]at hd;simp only[vW,seval,hlt,z3B,h];rw[hd]
  ·rw[if_neg h]at hd;simp only[vW,seval,hlt,z3B,w1,h];refine zc ⟨(p+(Lib.decodeL (l.drop p)).2,n+1),by omega,by simp only;omega,hd⟩ (by show l.length-(p+_)<l.length-p;omega) ?_;exact lwA
 ·have hn:l.drop p=[]:=List.drop_eq_nil_of_le (by omega);rw[if_pos hn]at hd;simp only[vW,seval,hlt];have:p=l.length:=by omega
  rw[←this,hd]
theorem zjH(g:Sh.Glob)(r:Int):zC g 176 [.pv (.v (.int .i32 r))] [] (I (Lib.runeLen r)) []:=
 z3u (vs:=[.int .i32 r]) (z1y (by kernel_rfl)) (fun w E r=> .pv (.v _)) (fun w hG=>(Tryz.utf8_RuneLen r w).mono fun e w' ⟨he,hw⟩=>⟨he,by rw[hw];exact Below.refl _ _⟩)
theorem zni(m:Nat)(s t:zB)(hs:s.length<4294967281):zC (glT m) 177 [S (str s),S (str t)] [] (I (Lib.index s t)) []:=
 z3u (vs:=[.string (str s),.string (str t)]) (z1y (by kernel_rfl)) (fun w E r=> .pv (.v _)) (fun w hG=>by
  obtain⟨k,hk⟩:=hG.t.mx;have:=Tryz.strings_Index (str s) (str t) k w (by rw[z4d];exact hs) hk;simp only[str_toList]at this;exact this.mono fun e w' ⟨he,hw⟩=>⟨he,by rw[hw];exact Below.refl _ _⟩)
theorem zkP(t u:zB): -1≤Lib.index t u∧Lib.index t u≤t.length:=by
 rcases Lib.index_spec t u with⟨h1,_⟩|⟨p,h1,h2,_⟩
 ·rw[h1];omega
 ·rw[h1];omega
theorem zkA(m:Nat)(t u:zB)(ht:t.length<4294967281):zC (glT m) 111 [S (str t),S (str u)] [] (I (z9v t u)) []:=by
 have HI:=zni m t u ht;have hb:=zkP t u;unfold z9v;refine z0w tf_81 ?_;refine z7 HI ?_;by_cases h:Lib.index t u<0
 ·rw[if_pos h];simp only[vW,seval,h]
 ·rw[if_neg h];obtain⟨n,hn⟩:∃n:Nat,Lib.index t u=n:=⟨(Lib.index t u).toNat,by omega⟩
  rw[hn]at hb h ⊢;have HS:=zb1 (glT m) (t.take n) (by rw[List.length_take];omega);simp only[vW,seval,h,List.drop_zero];refine⟨by omega,?_⟩;exact zd HS
theorem z0X(g:Sh.Glob)(n:Int):zC g 103 [I n] [] (nv (z0r n)) []:=by
 unfold z0r zeU nv;refine z0w tf_84 ?_;rfl
theorem zrN(k:Int): -1≤Lib.runeLen k∧Lib.runeLen k≤4:=by
 unfold Lib.runeLen
 repeat' split
 all_goals omega
theorem z59(g:Sh.Glob)(l:zB)(hl:l.length≤4611686018427387904):zC g 106 [S (str l)] [] (nv (z1X l)) []:=by
 obtain⟨R,hR⟩:∃R,zco l 0=R:=⟨_,rfl⟩
 unfold z1X nv;rw[zqX,hR];refine z0w tf_93 ?_;refine zp (σ:={q:Nat // q≤l.length∧zco (l.drop q) q=R}) (fun q=>⟨[(0,S (str l)),(2,.ptr 2 0),(6,.it 6)],[(2,[I 0,I 0,S ⟨#[]⟩,.pv (.v (.slice none 0 0))])],[],[(6,(str l,q.1))]⟩) (fun q=>l.length-q.1) ⟨0,Nat.zero_le _,by simpa using hR⟩ ?_ ?_
 ·exact lwA
 rintro⟨p,hp,hd⟩;rw[zkm]at hd;by_cases hlt:p<l.length
 ·have hne:l.drop p≠[]:=by rw[Ne,List.drop_eq_nil_iff];omega
  rw[if_neg hne,List.drop_drop]at hd;have hw:=z2E hne;rw[List.length_drop]at hw;have HR:=zjH g (((Lib.decodeL (l.drop p)).1:Nat):Int);have hrl:=zrN (((Lib.decodeL (l.drop p)).1:Nat):Int);generalize Lib.runeLen (((Lib.decodeL (l.drop p)).1:Nat):Int)=k at*;have w1:IntKind.i64.wrap ((p:Int)+k)=(p:Int)+k:=wrap64 (by omega) (by omega);by_cases h:60<(p:Int)+k
  ·rw[if_pos h]at hd;subst hd;simp only[vW,seval,hlt,z3B];refine z7 HR ?_;simp only[vW,seval,w1,h,List.drop_zero];exact⟨by omega,by omega⟩
  ·rw[if_neg h]at hd;simp only[vW,seval,hlt,z3B];refine z7 HR ?_;simp only[vW,seval,w1,h];refine zc ⟨p+(Lib.decodeL (l.drop p)).2,by omega,hd⟩ (by show l.length-(p+_)<l.length-p;omega) ?_;exact lwA
 ·have hn:l.drop p=[]:=List.drop_eq_nil_of_le (by omega);rw[if_pos hn]at hd;simp only[vW,seval,hlt];have:p=l.length:=by omega
  rw[←hd,this,List.take_length]
theorem znh(g:Sh.Glob)(s:zB)(c:Int)(hs:s=[61]∨s=[60,62]∨s=[60]∨s=[60,61]∨s=[62]∨s=[62,61]):zC g 182 [S (str s),I c] [] (B (z3Y s c)) []:=by
 have q1:=bS [60,61];have q2:=bS [61];have q3:=bS [62,61];have q4:=bS [62];have q5:=bS [60,62];unfold B;have e1:(([60,62]:zB)==[60,61])=false:=rfl;have e2:(([60,62]:zB)==[61])=false:=rfl;have e3:(([60,62]:zB)==[62,61])=false:=rfl;have e4:(([60,62]:zB)==[62])=false:=rfl;have f1:(([61]:zB)==[60,61])=false:=rfl;have g1:(([60]:zB)==[60,61])=false:=rfl;have g2:(([60]:zB)==[61])=false:=rfl;have g3:(([60]:zB)==[62,61])=false:=rfl;have g4:(([60]:zB)==[62])=false:=rfl;have g5:(([60]:zB)==[60,62])=false:=rfl;have h1:(([62]:zB)==[60,61])=false:=rfl;have h2:(([62]:zB)==[61])=false:=rfl;have h3:(([62]:zB)==[62,61])=false:=rfl;have i1:(([62,61]:zB)==[60,61])=false:=rfl;have i2:(([62,61]:zB)==[61])=false:=rfl;refine za tf_83 ?_;rcases hs with rfl|rfl|rfl|rfl|rfl|rfl
 ·rw[show z3Y [61] c=decide (c=0) from rfl];simp only[vW,seval,q1,q2,q3,q4,q5,f1]
 ·rw[show z3Y [60,62] c=decide (c≠0) from rfl];simp only[vW,seval,q1,q2,q3,q4,q5,e1,e2,e3,e4];simp
 ·rw[show z3Y [60] c=decide (c<0) from rfl];simp only[vW,seval,q1,q2,q3,q4,q5,g1,g2,g3,g4,g5]
 ·rw[show z3Y [60,61] c=decide (c≤0) from rfl];by_cases h:c<0
  ·simp only[vW,seval,q1,q2,q3,q4,q5,h];simp;omega
  ·simp only[vW,seval,q1,q2,q3,q4,q5,h];simp;omega
 ·rw[show z3Y [62] c=decide (0<c) from rfl];simp only[vW,seval,q1,q2,q3,q4,q5,h1,h2,h3]
 ·rw[show z3Y [62,61] c=decide (0≤c) from rfl];by_cases h:c=0
  ·simp only[vW,seval,q1,q2,q3,q4,q5,i1,i2,h]
  ·simp only[vW,seval,q1,q2,q3,q4,q5,i1,i2,h];simp;omega
end Go.Proofs.YtbkgnekfigknhaaGreatDoor
end

section
namespace Go.Mor
open Go
section
structure Open(F:Fence):Prop where
 fn:∀f,F.fn f
 depth:F.depth=none
 calls:∀(n:Nat) (P:Program) (f:FuncId) (args:Array Value) (w:World) (R:Ending→World→Prop),Calls P f args w R→CallsIn F n P f args w R
section
variable{F:Fence}{n:Nat}{P:Program}{ops:Array Oper}{md:Region.Mode}{w:World}
end
end
end Go.Mor
end

section
namespace Go.Proofs.YtbkgnekfigknhaaGreatDoor
open Go Go.RowKit Go.Mor Go.Sh Go.Lib Go.Deep
theorem zpQ(m:Nat)(w:World)(hG:(glE m).G w)(n:Int)(h0: -9223372036854775808≤n)(h1:n≤9223372036854775807):Calls Tryz.prog 91 #[.int .i64 n] w fun e w'=>e=.returned (.string (str (Lib.itoa n)))∧Below w.heap.size w w':=
 (Tryz.strconv_Itoa n h0 h1 w hG.t.tab).mono fun e w' ⟨he,k,os,hw⟩=>⟨he,by rw[hw];exact zbe⟩
theorem zgz{w w':World}{t5:TypeId}{s:ByteArray}(h:w'=w∨∃t,w'=Lib.bytesWorld w t5 t):Below w.heap.size w w':=by
 rcases h with rfl|⟨t,rfl⟩
 ·exact Below.refl _ _
 ·exact Lib.bytesWorld_below _ _ _
theorem zd1{w w1 w2:World}(h1:Below w.heap.size w w1)(h2:Below w1.heap.size w1 w2):Below w.heap.size w w2:=
 ⟨h2.os.trans h1.os,h2.tape.trans h1.tape,h2.output.trans h1.output,Nat.le_trans h1.size h2.size,fun k hk=>(h2.block k (Nat.lt_of_lt_of_le hk h1.size)).trans (h1.block k hk)⟩
theorem zkK{m:Nat}{w w1:World}(hG:(glE m).G w)(hb:Below w.heap.size w w1):(glE m).G w1:=
 (glE m).st w w1 hG (fun k hk=>hb.block k (by have:=(glE m).le w hG;exact Nat.lt_of_lt_of_le hk this))
theorem zgk(m:Nat)(s:zB)(w:World)(x:Int)(t:TypeId)(HA:Calls Tryz.prog 178 #[.string (str s)] w fun e w'=>∃N,e=.returned (.tuple #[.int .i64 x,.iface t (.pointer (some ⟨N,0,none⟩))])∧Below w.heap.size w w'):
  Calls Tryz.prog 114 #[.string (str s)] w fun e w'=>e=.returned (.int .i64 0)∧Below w.heap.size w w':=by
 go_enter Tryz.func114,Tryz.ntmps114
 go_wp2_with (go_at_call 178;refine HA.mono ?_;rintro e w1 ⟨N,rfl,hb1⟩)
 go_ret
 exact⟨rfl,hb1⟩
theorem zlW(m:Nat)(s:zB)(w:World)(hG:(glE m).G w)(v:Int)(HA:Calls Tryz.prog 178 #[.string (str s)] w fun e w'=>e=.returned (.tuple #[.int .i64 v,.nilIface])∧Below w.heap.size w w')(hv: -9223372036854775808≤v∧v≤9223372036854775807):
  Calls Tryz.prog 114 #[.string (str s)] w fun e w'=>e=.returned (.int .i64 (if v< -1000000000000000∨1000000000000000<v∨Lib.itoa v≠s then 0 else v))∧Below w.heap.size w w':=by
 have HI:=fun w1 (hb1:Below w.heap.size w w1)=>zpQ m w1 (zkK hG hb1) v hv.1 hv.2;by_cases h1:v< -1000000000000000
 ·rw[if_pos (.inl h1)]
  go_enter Tryz.func114,Tryz.ntmps114
  go_wp2_with (go_at_call 178;refine HA.mono ?_;rintro e w1 ⟨rfl,hb1⟩)
  go_ret
  exact⟨rfl,hb1⟩
 by_cases h2:1000000000000000<v
 ·rw[if_pos (.inr (.inl h2))]
  go_enter Tryz.func114,Tryz.ntmps114
  go_wp2_with (go_at_call 178;refine HA.mono ?_;rintro e w1 ⟨rfl,hb1⟩)
  go_ret
  exact⟨rfl,hb1⟩
 by_cases h3:Lib.itoa v=s
 ·rw[if_neg (by rintro(h|h|h)<;>first|exact h1 h|exact h2 h|exact h h3)];have hne:(Lib.itoa v==s)=true:=by simpa using h3
  go_enter Tryz.func114,Tryz.ntmps114
  go_wp2_with (first|(go_at_call 178;refine HA.mono ?_;rintro e w1 ⟨rfl,hb1⟩)|(go_at_call 91;refine(HI _ hb1).mono ?_;rintro e w2 ⟨rfl,hb2⟩))
  go_ret
  exact⟨rfl,zd1 hb1 hb2⟩
 ·rw[if_pos (.inr (.inr h3))];have hne:(Lib.itoa v==s)=false:=by simpa using h3
  go_enter Tryz.func114,Tryz.ntmps114
  go_wp2_with (first|(go_at_call 178;refine HA.mono ?_;rintro e w1 ⟨rfl,hb1⟩)|(go_at_call 91;refine(HI _ hb1).mono ?_;rintro e w2 ⟨rfl,hb2⟩))
  go_ret
  exact⟨rfl,zd1 hb1 hb2⟩
theorem zqx(m:Nat)(s:zB)(hs:s.length≤281474976710656):zC (glE m) 114 [S (str s)] [] (I (z44 s)) []:=
 z3u (vs:=[.string (str s)]) (v:=.int .i64 (z44 s)) (z1y (by kernel_rfl)) (fun w E r=> .pv (.v _)) (fun w hG=>by
  have hG:GlobNE m w:=hG;obtain⟨⟨t1,p1,hs1⟩,⟨t2,p2,hr1⟩⟩:=hG.e;have hsz:(str s).size≤281474976710656:=by rw[z4d];exact hs
  have htl:(str s).data.toList=s:=str_toList s;rcases he:Lib.atoiAll s with v|_|_
  ·have hv:=Lib.atoiAll_bounds he;have hu:z44 s=if v< -1000000000000000∨1000000000000000<v∨Lib.itoa v≠s then 0 else v:=by unfold z44;rw[he]
   rw[hu];exact zlW m s w hG v ((Any.strconv_Atoi_ok Tryz.laysC172 (str s) (by omega) v (by rw[htl];exact he) w).mono fun e w' ⟨h1,h2⟩=>⟨h1,zgz (s:=str s) h2⟩) hv
  ·have hu:z44 s=0:=by unfold z44;rw[he]
   rw[hu];exact zgk m s w 0 _ ((Any.strconv_Atoi_syntax Tryz.laysC172 (str s) hsz (by rw[htl];exact he) _ w hs1 (.inr ⟨_,_,rfl⟩)).mono fun e w' ⟨N,h1,_,_,h2⟩=>⟨N,h1,h2⟩)
  ·have hu:z44 s=0:=by unfold z44;rw[he]
   rw[hu];exact zgk m s w _ _ ((Any.strconv_Atoi_range Tryz.laysC172 (str s) hsz (by rw[htl];exact he) _ w hr1 (.inr ⟨_,_,rfl⟩)).mono fun e w' ⟨N,h1,_,_,h2⟩=>⟨N,h1,h2⟩))
end Go.Proofs.YtbkgnekfigknhaaGreatDoor
end

section
namespace Go.Sh
open Go Go.RowKit
section
def TV.flat(x:TV):Prop:=(∃p,x=.pv p)∨∃d W es,x=.own d W es
theorem RelT.still{w w':World}{E:Env}{r:Rows}{x:TV}{v:Value}(hx:x.flat)(h:RelT w E r x v)(hk:∀b o u,E.K b o→w.cell? ⟨b,o,none⟩=some u→E.K b o∧w'.cell? ⟨b,o,none⟩=some u):RelT w' E r x v:=by
 rcases hx with⟨p,rfl⟩|⟨d,W,es,rfl⟩
 ·cases h with|pv h=>exact .pv (h.mono hk)
 ·cases h with|own _ _ _ _ h h2=>exact .own d W es v (h.mono hk) h2
theorem z6w{w w':World}{b o:Nat}(h:w'.heap[b]?=w.heap[b]?):w'.frozen? ⟨b,o,none⟩=w.frozen? ⟨b,o,none⟩:=by
 simp only[World.frozen?,h]
theorem zbl{w:World}{b o:Nat}{u:Value}(h:w.cell? ⟨b,o,none⟩=some u):∃ob:Obj,w.heap[b]?=some ob∧ob.isCells=true:=by
 unfold World.cell? at h;split at h
 ·rename_i c e z hb;exact⟨_,hb,rfl⟩
 ·cases h
section
variable{B:Base}{b:Nat→Option (List TV)}{r:Rows}{w w':World}{E:Env}{row:Option Nat}
theorem MSim.grown(h:MSim B b r w E)(hfl:∀d cs,b d=some cs→∀x∈cs,x.flat)(hg:w.grownBy w' row)(hr:∀k,row=some k→B.w0.heap.size≤k∧∃o:Obj,w.heap[k]?=some o∧o.isCells=false):MSim B b r w' E:=by
 have hcs:∀(k:Nat) (o:Obj),w.heap[k]?=some o→o.isCells=true→w'.heap[k]?=w.heap[k]?:=fun k o hk ho=>by
  refine hg.block k (gA hk).1 (fun he=> ?_)
  grind
 have hce:∀(k o:Nat) (u:Value),w.cell? ⟨k,o,none⟩=some u→w'.cell? ⟨k,o,none⟩=some u:=fun k o u hu=>by
  grind [zbl,World.cell?_of_block]
 have hk:∀b o u,E.K b o→w.cell? ⟨b,o,none⟩=some u→E.K b o∧w'.cell? ⟨b,o,none⟩=some u:=fun b o u h1 h2=>⟨h1,hce b o u h2⟩
 refine⟨fun d cs hd=> ?_,fun d e W n hd=> ?_,h.bb,h.br,h.rr,fun k o hk=>Nat.lt_of_lt_of_le (h.lt k o hk) hg.size,?_,fun k o u h1 h2=>⟨(h.keep k o u h1 h2).1,hce _ _ _ (h.keep k o u h1 h2).2⟩,h.knew,h.pas⟩
 ·obtain⟨⟨lt,⟨c,e,z,hob⟩,fz,cell,out⟩,hq⟩:=h.box d cs hd;have hs:=hcs _ _ hob rfl;refine⟨⟨Nat.lt_of_lt_of_le lt hg.size,⟨c,e,z,hs.trans hob⟩,fun o=>(z6w hs).trans (fz o),fun j c hj=> ?_,out⟩,hq⟩;obtain⟨v,h1,h2,h3⟩:=cell j c hj;exact⟨v,hce _ _ _ h1,h2,h3.still (hfl d cs hd c (gM hj)) hk⟩
 ·rcases h.row d e W n hd with h1|⟨k,cap,h1,h2,⟨⟨cur,h3,h4⟩,h5,h6,h7⟩⟩
  ·grind
  ·exact .inr ⟨k,cap,h1,h2,⟨⟨cur,(hcs _ _ h3 rfl).trans h3,h4⟩,h5,h6,h7⟩⟩
 ·exact⟨hg.os.trans h.low.os,hg.tape.trans h.low.tape,hg.output.trans h.low.output,Nat.le_trans h.low.size hg.size,fun k hk hX=>(hg.block k (Nat.lt_of_lt_of_le hk h.low.size) (fun he=>by have:=(hr k he.symm).1;omega)).trans (h.low.block k hk hX)⟩
end
def z8W(β:Nat)(W:World)(k:Nat):Prop:=∃p n c,W.cell? ⟨β,0,none⟩=some (.slice (some p) n c)∧p.block=k
structure Kp(O:List Nat)(β n:Nat)(W W':World):Prop where
 size:W.heap.size≤W'.heap.size
 same:∀(k:Nat) (o:Obj),W.heap[k]?=some o→o.isCells=true→k∉O→¬z8W β W k→W'.heap[k]?=some o
 rb:∀k,z8W β W' k→z8W β W k∨W.heap.size≤k
 lt:(∀k,z8W β W k→k<W.heap.size)→∀k,z8W β W' k→k<W'.heap.size
 glob:∀k,k<n→W'.heap[k]?=W.heap[k]?
theorem Kp.refl{O:List Nat}{β n:Nat}(W:World):Kp O β n W W:=⟨Nat.le_refl _,fun _ _ h _ _ _=>h,fun _ h=> .inl h,fun h=>h,fun _ _=>rfl⟩
theorem Kp.trans{O:List Nat}{β n:Nat}{A B C:World}(h:Kp O β n A B)(k:Kp O β n B C):Kp O β n A C:=by
 refine⟨Nat.le_trans h.size k.size,fun j o h1 h2 h3 h4=>k.same j o (h.same j o h1 h2 h3 h4) h2 h3 (fun h5=> ?_),fun j h1=> ?_,fun h1=>k.lt (h.lt h1),fun j hj=>(k.glob j hj).trans (h.glob j hj)⟩
 ·rcases h.rb j h5 with h6|h6<;>grind
 ·rcases k.rb j h1 with h2|h2
  ·exact h.rb j h2
  ·have:=h.size;exact .inr (by omega)
theorem zdE{β:Nat}{W W':World}(h:W'.heap[β]?=W.heap[β]?)(k:Nat):z8W β W' k ↔ z8W β W k:=by
 grind [z8W,World.cell?_of_block]
theorem Kp.put{O:List Nat}{β n m:Nat}(hβ:β<m)(hn:n≤m)(W:World)(l:Nat)(o o':Obj)(hl:m≤l)(ho:W.heap[l]?=some o)(hc:o.isCells=false):Kp O β n W (W.putObj l o'):=by
 have hne:∀k,k≠l→(W.putObj l o').heap[k]?=W.heap[k]?:=fun k hk=>World.putObj_heap_other hk;refine⟨by simp,fun k ob h1 h2 _ _=>(hne k (fun he=> ?_)).trans h1,fun k h=> .inl ((zdE (hne β (by omega)) k).1 h),fun h k h1=> ?_,fun k hk=>hne k (by omega)⟩
 ·grind
 ·have:=h k ((zdE (hne β (by omega)) k).1 h1);simp_all
end
section
def TV.isPv:TV→Bool
 | .pv _=>true
 |_=>false
def TV.flB:TV→Bool
 | .pv _=>true
 | .own _ _ _=>true
 | .fn _ a b=>a.all TV.isPv&&b.all TV.isPv
 |_=>false
def TV.fl2B:TV→Bool
 | .agg cs=>cs.all TV.flB
 | .ptr _ _=>true
 |x=>x.flB
theorem RelT.stillB{w w':World}{E:Env}{r:Rows}{x:TV}{v:Value}(hx:x.flB=true)(h:RelT w E r x v)(hk:∀b o u,E.K b o→w.cell? ⟨b,o,none⟩=some u→E.K b o∧w'.cell? ⟨b,o,none⟩=some u):RelT w' E r x v:=by
 have hpv:∀{l:List TV} {us:List Value},l.all TV.isPv=true→(∀(j:Nat) c v,l[j]?=some c→us[j]?=some v→RelT w E r c v)→∀(j:Nat) c v,l[j]?=some c→us[j]?=some v→RelT w' E r c v:=by
  intro l us hl hr j c v hc hv;have h1:=List.all_eq_true.1 hl c (gM hc);have h2:=hr j c v hc hv;cases c with
  |pv p=>cases h2 with|pv h=>exact .pv (h.mono hk)
  |_=>simp[TV.isPv]at h1
 cases x with
 |pv p=>exact h.still (.inl ⟨_,rfl⟩) hk
 |own d W es=>exact h.still (.inr ⟨_,_,_,rfl⟩) hk
 |fn f a b=>
  simp only[TV.flB,Bool.and_eq_true]at hx;cases h with
  |fn g xs ys us vs h1 h2 r1 r2=>exact .fn f a b us vs h1 h2 (hpv hx.1 r1) (hpv hx.2 r2)
 |_=>simp[TV.flB]at hx
theorem RelT.still2{w w':World}{E:Env}{r:Rows}{x:TV}{v:Value}(hx:x.fl2B=true)(h:RelT w E r x v)(hk:∀b o u,E.K b o→w.cell? ⟨b,o,none⟩=some u→E.K b o∧w'.cell? ⟨b,o,none⟩=some u):RelT w' E r x v:=by
 cases x with
 |agg cs=>
  cases h with
  |agg cs vs hl h ho=>
   refine .agg cs vs hl (fun j c v hc hv=>(h j c v hc hv).stillB ?_ hk) ho;exact(List.all_eq_true.1 hx) c (gM hc)
 |ptr d o=>cases h;exact .ptr d o
 |_=>exact h.stillB hx hk
inductive MixO where
 |op (so:SOper)
 |ins (k:Value) (x:Nat)
def zoY(P:Program)(N:Nat)(H:Option Nat→Nat)(ops:Array Oper)(t m i:Nat):Option MixO:=match zeo ops t m i with
 |some (.const k,.tmp x)=>some (.ins k x)
 |some _=>none
 |none=>match ops[i]? with
  |some o=>match z1p P N H none ops o with
   |some so=>match so.guard,so.dst with
    |none,some d=>if Nat.beq d m then none else some (.op so)
    |_,_=>none
   |none=>none
  |none=>none
def zcF(P:Program)(N:Nat)(H:Option Nat→Nat)(ops:Array Oper)(t m:Nat):List Nat→Option (List MixO)
 |[]=>some []
 |i::l=>match zoY P N H ops t m i,zcF P N H ops t m l with
  |some x,some r=>some (x::r)
  |_,_=>none
def flS(m:Nat)(s:ES):Bool:=s.t.all (fun p=>Nat.beq p.1 m||p.2.fl2B)&&s.b.all (fun p=>p.2.all TV.flB)&&s.i.isEmpty
def ziS(m x:Nat)(k:Value)(text:Bool)(K:ES→Prop)(s:ES):Option TV→Option TV→Prop
 |some (.mp ks xs),some y=>findKs (kdOf text) k ks 0=some none∧(xs.all TV.fl2B&&y.fl2B)=true∧K ⟨sv s.t m (.mp (ks++[k]) (xs++[y])),s.b,s.r,s.i⟩
 |_,_=>False
def z5C(P:Program)(g:Glob)(text:Bool)(m:Nat)(K:ES→Prop):List MixO→ES→Prop
 |[],s=>K s
 | .op so::l,s=>zQ P g [so] (z5C P g text m K l) (s.fgt so.news)
 | .ins k x::l,s=>flS m s=true∧Nat.beq x m=false∧ziS m x k text (z5C P g text m K l) s (lk s.t m) (lk s.t x)
theorem z7j{α:Type}:∀{l:List (Nat×α)} {k:Nat} {x:α},lk l k=some x→(k,x)∈l
 |[],k,x,h=>by simp[lk]at h
 |(j,y)::l,k,x,h=>by
  simp only[lk]at h;cases hj:Nat.beq j k with
  |true=>simp_all
  |false=>rw[hj]at h;exact List.mem_cons_of_mem _ (z7j h)
section
variable{P:Program}{g:Glob}{ops:Array Oper}{B:Base}{H:Option Nat→Nat}{t kt et:TypeId}{text:Bool}{m b:Nat}
theorem zon{s:ES}{a:Act}{w w':World}{E:Env}(h:Sim B s.fs a w E)(hfl:flS m s=true){ks ks':List Value}{xs xs':List TV}(hm:lk s.t m=some (.mp ks xs))(hs:MapTurn b w w')(hb:B.w0.heap.size≤b)(ho:∃es c,w.heap[b]?=some (Obj.map es c))
  (hr:(∀b o u,E.K b o→w.cell? ⟨b,o,none⟩=some u→E.K b o∧w'.cell? ⟨b,o,none⟩=some u)→RelT w' E s.fs.r (.mp ks' xs') (a.tmps.getD m undef)):
  Sim B (⟨sv s.t m (.mp ks' xs'),s.b,s.r,s.i⟩:ES).fs a w' E:=by
 unfold flS at hfl;simp only[Bool.and_eq_true,List.all_eq_true,List.isEmpty_iff]at hfl;obtain⟨⟨ht,hbx⟩,hi⟩:=hfl;have hcs:∀(k:Nat) (o:Obj),w.heap[k]?=some o→o.isCells=true→w'.heap[k]?=w.heap[k]?:=fun k o hk hc=>by
  refine hs.block k (fun e=> ?_);obtain⟨_,_,ho⟩:=ho;rw[e,ho]at hk;cases hk;cases hc
 have hce:∀(k o:Nat) (u:Value),w.cell? ⟨k,o,none⟩=some u→w'.cell? ⟨k,o,none⟩=some u:=fun k o u hu=>by
  grind [zbl,World.cell?_of_block]
 have hk:∀b o u,E.K b o→w.cell? ⟨b,o,none⟩=some u→E.K b o∧w'.cell? ⟨b,o,none⟩=some u:=fun b o u h1 h2=>⟨h1,hce b o u h2⟩
 have hlow:Low B.X B.w0 w':=by
  obtain⟨l1,l2,l3,l4,l5⟩:=h.mem.low;refine⟨hs.os.trans l1,hs.tape.trans l2,hs.output.trans l3,by rw[hs.size];exact l4,fun k hk hx=>(hs.block k (fun e=>by subst e;exact absurd hk (Nat.not_lt.2 hb))).trans (l5 k hk hx)⟩
 have hmk:∀(k:Nat) (o:Obj),mark o=true→w.heap[k]?=some o→w'.heap[k]?=some o:=fun k o h1 h2=>(hs.block k (fun e=>by obtain⟨_,_,ho⟩:=ho;rw[e,ho]at h2;cases h2;cases h1)).trans h2;refine⟨⟨let⟨l,h0,h1,h2,h3⟩:=h.defers.col;⟨l,h0,h1,h2,fun D hD=>⟨(h3 D hD).1,(h3 D hD).2.1,hmk _ _ rfl (h3 D hD).2.2⟩⟩,fun p hp=>⟨(h.defers.pr p hp).1,hmk _ _ (h.defers.pr p hp).1 (h.defers.pr p hp).2⟩⟩,h.size,fun k x hx=> ?_,⟨fun d cs hd=> ?_,fun d e W n hd=> ?_,h.mem.bb,h.mem.br,h.mem.rr,fun k o hko=>by rw[hs.size];exact h.mem.lt k o hko,hlow,fun k o u h1 h2=>⟨(h.mem.keep k o u h1 h2).1,hce _ _ _ (h.mem.keep k o u h1 h2).2⟩,h.mem.knew,h.mem.pas⟩,fun d z p hd=> ?_,h.ii⟩
 ·have hx:lk (sv s.t m (.mp ks' xs')) k=some x:=hx;rw[z1V]at hx;rcases z0f hx with⟨rfl,rfl⟩|⟨hne,hx⟩
  ·exact⟨(h.tmp k _ hm).1,hr hk⟩
  ·obtain⟨h1,h2⟩:=h.tmp k x hx;refine⟨h1,h2.still2 ?_ hk⟩;have:=ht _ (z7j hx);simp_all
 ·obtain⟨⟨lt,⟨c,e,z,hob⟩,fz,cell,out⟩,hq⟩:=h.mem.box d cs hd;have hss:=hcs _ _ hob rfl;refine⟨⟨by rw[hs.size];exact lt,⟨c,e,z,hss.trans hob⟩,fun o=>(z6w hss).trans (fz o),fun j c hj=> ?_,out⟩,hq⟩;obtain⟨v,h1,h2,h3⟩:=cell j c hj;exact⟨v,hce _ _ _ h1,h2,h3.stillB ((hbx _ (z7j hd)) c (gM hj)) hk⟩
 ·rcases h.mem.row d e W n hd with h1|⟨k,cap,h1,h2,⟨⟨cur,h3,h4⟩,h5,h6,h7⟩⟩
  ·grind
  ·exact .inr ⟨k,cap,h1,h2,⟨⟨cur,(hcs _ _ h3 rfl).trans h3,h4⟩,h5,h6,h7⟩⟩
 ·have hd:lk s.i d=some (z,p):=hd
  grind [lk]
theorem zrv{w:World}{E:Env}{r:Rows}{ks:List Value}{xs:List TV}{v:Value}(h:RelT w E r (.mp ks xs) v):∃(b:Nat) (es:Array MapEntry) (clock:Nat) (g:Nat→Value),v=.map (some b)∧w.heap[b]?=some (Obj.map es clock)∧es.toList.map MapEntry.key=ks∧xs.length=ks.length∧(∀(j:Nat) e,es.toList[j]?=some e→e.val=g j)∧∀(j:Nat) x,xs[j]?=some x→RelT w E r x (g j):=by
 cases h with
 |mp ks xs b es clock g h1 h2 h3 h4 h=>exact⟨b,es,clock,g,rfl,h1,h2,h3,h4,h⟩
theorem z8I(hm0:B.m≤1000)(hN:B.N≤1000)(hG:g.G B.w0)(hX:∀d b,B.X d b→g.n≤b)(hu:P.underlying t=some (.map kt et))(hkt:P.underlying kt=some (kdOf text))(hmN:m<B.N)(hbb:B.w0.heap.size≤b){Q:Exit→Act→World→Prop}{K:ES→Prop}{zu:List Nat}
  (hK:∀(s:ES) (a:Act) (w:World) (E:Env),Sim B s.fs a w E→K s→wpOps P ops Q zu a w):∀(is:List Nat) (l:List MixO),zcF P B.N H ops t m is=some l→∀(s:ES) (a:Act) (w:World) (E:Env),z5C P g text m K l s→Sim B s.fs a w E→a.tmps.getD m undef=.map (some b)→wpOps P ops Q (is++zu) a w
 |[],l,hl,s,a,w,E,h,hS,hm=>by
  simp only[zcF,Option.some.injEq]at hl;subst hl;exact hK s a w E hS h
 |i::is,l,hl,s,a,w,E,h,hS,hm=>by
  simp only[zcF]at hl;split at hl<;>try(cases hl;done)
  rename_i x r hx hr;cases hl;have ih:=z8I hm0 hN hG hX hu hkt hmN hbb hK is r hr;rw[List.cons_append,wpOps_cons];unfold zoY at hx;split at hx
  ·rename_i k y hins;cases hx;obtain⟨hfl,hne,hk⟩:=h;unfold ziS at hk;split at hk<;>try(exact hk.elim)
   rename_i ks xs tv hks htv;obtain⟨hfr,hfx,hk⟩:=hk;unfold zeo at hins;split at hins<;>try(cases hins;done)
   rename_i o ho;split at hins<;>try(cases hins;done)
   rename_i t' m' k' x' hop hdst hg;split at hins<;>try(cases hins;done)
   rename_i htm;rw[Bool.and_eq_true]at htm;obtain rfl:=Nat.eq_of_beq_eq_true htm.1;obtain rfl:=Nat.eq_of_beq_eq_true htm.2;cases hins;obtain⟨_,hrel⟩:=hS.tmp m _ hks;rw[hm]at hrel;obtain⟨b',es,clock,gg,e1,hob,hkeys,hlen,hvals,hxs⟩:=zrv hrel;cases e1;obtain⟨w1,hrun,hturn,hb1⟩:=zhY (P:=P) (k:=a.eval (.const k)) (v:=a.eval (.tmp y)) hu hkt hob (by rw[hkeys];exact hfr);unfold wpOp;simp only[ho];rw[if_pos (by simp[Region.wanted,hg])];refine .inl ?_;unfold Oper.wp;have em:a.eval (.tmp m)=.map (some b):=hm;have hex:(execOp a.eval o).run P w=.ok .skip w1:=by
    have ec:a.eval (.const k)=k:=rfl;rw[ec]at hrun;simp[execOp,hop,em,ec,hrun,Result.andThen]
   rw[hex];show wpOps P ops Q (is++zu) (a.put o.dst undef) w1;rw[hdst];refine ih _ a w1 E hk (zon hS hfl hks hturn hbb ⟨_,_,hob⟩ (fun hkk=> ?_)) hm;rw[hm];rw[Bool.and_eq_true,List.all_eq_true]at hfx;refine .mp _ _ b _ _ (fun j=>if j=ks.length then a.tmps.getD y undef else gg j) hb1 (by simp[hkeys];rfl) (by grind) (fun j e he=> ?_) (fun j z hz=> ?_)
   ·rw[Array.toList_push]at he;have hkl:es.toList.length=ks.length:=by grind
    rcases Nat.lt_or_ge j ks.length with hj|hj
    ·grind
    ·rw[List.getElem?_append_right (by omega)]at he;have hj0:j-es.toList.length=0:=by
      grind
     rw[hj0]at he;simp at he;subst he;rw[if_pos (by omega)];rfl
   ·rcases Nat.lt_or_ge j ks.length with hj|hj
    ·rw[List.getElem?_append_left (by omega)]at hz;rw[if_neg (by omega)];exact(hxs j z hz).still2 (hfx.1 z (gM hz)) hkk
    ·rw[List.getElem?_append_right (by omega)]at hz;have hj0:j-xs.length=0:=by
      grind
     rw[hj0]at hz;simp at hz;subst hz;rw[if_pos (by omega)];exact(hS.tmp y _ htv).2.still2 hfx.2 hkk
  ·cases hx
  ·rename_i hins;split at hx<;>try(cases hx;done)
   rename_i o ho;split at hx<;>try(cases hx;done)
   rename_i so ht;split at hx<;>try(cases hx;done)
   rename_i d hgd hdd;split at hx<;>try(cases hx;done)
   cases hx;have hd:Nat.beq d m=false:=by
    grind
   unfold z1p at ht;split at ht<;>try(cases ht;done)
   rename_i gd op hg hop;split at ht<;>try(cases ht;done)
   rename_i hdn;cases ht;simp only at hgd hdd;subst hgd;have hgo:o.guard=none:=by
    cases hgo:o.guard<;>grind [only,z3S]
   have hS':=z1K hS (SOper.news ⟨o.dst,none,none,op⟩);obtain⟨C,hC,e,he,hk⟩:=h;have he':eff P C o.dst op (s.fgt (SOper.news ⟨o.dst,none,none,op⟩)).fs=some e:=(z66 (o:=⟨o.dst,none,none,op⟩) he).1;unfold wpOp;simp only[ho];rw[if_pos (by simp[Region.wanted,hgo])];refine .inl (zlJ (C:=C) hS' hm0 hN hG hX hop (fun k hk=>by rw[hk]at hdn;simp only[zeh,Nat.blt_eq]at hdn;exact hdn) (fun d hd=>z1J s hd) hC (x:=e.1) (u:=e.2) he' (fun v w' E' hS2=> ?_));refine ih _ _ w' E' hk ?_ ?_
   ·rw[ES.after_fs];exact hS2
   ·rw[hdd];have hne:d≠m:=fun e=>by subst e;rw[Nat.beq_refl]at hd;cases hd
    simp only[Act.put,Array.getD_eq_getD_getElem?]at hm ⊢
    grind
end
end
end Go.Sh
end

section
namespace Go.Proofs.YtbkgnekfigknhaaGreatDoor
open Go Go.RowKit Go.Mor Go.Sh
section
open Go.Sh.Cd1 Go.Sh.Cd6
def fnP(f:Nat):TV:=.pv (.v (.func (.func f) #[] #[]))
def clE(of w:TV):TV:=.agg [of,w]
def callL:List (zB×TV):=[(z4C,clE (z0c 1 [2]) (fnP 102)),(z1E,clE (z0c 2 [2,1]) (fnP 105)),(z13,clE (z0c 2 [2,1]) (fnP 108)),(z1D,clE (z0c 2 [2,1]) (fnP 109)),(z2l,clE (z0c 1 [2,2]) (fnP 110)),
 (z1l,clE (z0c 2 [1]) (fnP 112)),(z4D,clE (z0c 1 [2]) (fnP 113)),(nIf,clE (fnP 115) (fnP 116)),(z4X,clE (z0c 1 [1,1]) (fnP 117)),(z5D,clE (z0c 1 [1,1]) (fnP 118))]
def zqS:List Value:=callL.map fun p=> .string (str p.1)
def callM:TV:=.mp zqS (callL.map (·.2))
noncomputable def zhi:Array Oper:=match Tryz.prog.funcs[59]? with
 |some fn=>match fn.body with
  |some (.seq _ (.seq (.region _ ops _) _))=>ops
  |_=> #[]
 |none=> #[]
def z9q:List MixO:=[.op ⟨(some 2),none,none,.bsl 1 [(.val (.int .i64 2))]⟩,.op ⟨(some 3),none,none,.call 101 0 [(.val (.int .i64 1)),(.tmp 2)]⟩,.op ⟨(some 4),none,none,.build [.nilFunc,.nilFunc] [(0,1,(.tmp 3)),(1,1,(.val (.func (.func 102) #[] #[])))]⟩,.ins ((.string ⟨#[108,101,110]⟩)) 4,.op ⟨(some 5),none,none,.bsl 1 [(.val (.int .i64 2)),(.val (.int .i64 1))]⟩,.op ⟨(some 6),none,none,.call 101 0 [(.val (.int .i64 2)),(.tmp 5)]⟩,.op ⟨(some 7),none,none,.build [.nilFunc,.nilFunc] [(0,1,(.tmp 6)),(1,1,(.val (.func (.func 105) #[] #[])))]⟩,.ins ((.string ⟨#[108,101,102,116]⟩)) 7,.op ⟨(some 8),none,none,.bsl 1 [(.val (.int .i64 2)),(.val (.int .i64 1))]⟩,.op ⟨(some 9),none,none,.call 101 0 [(.val (.int .i64 2)),(.tmp 8)]⟩,.op ⟨(some 10),none,none,.build [.nilFunc,.nilFunc] [(0,1,(.tmp 9)),(1,1,(.val (.func (.func 108) #[] #[])))]⟩,.ins ((.string ⟨#[114,105,103,104,116]⟩)) 10,.op ⟨(some 11),none,none,.bsl 1 [(.val (.int .i64 2)),(.val (.int .i64 1))]⟩,.op ⟨(some 12),none,none,.call 101 0 [(.val (.int .i64 2)),(.tmp 11)]⟩,.op ⟨(some 13),none,none,.build [.nilFunc,.nilFunc] [(0,1,(.tmp 12)),(1,1,(.val (.func (.func 109) #[] #[])))]⟩,.ins ((.string ⟨#[102,114,111,109]⟩)) 13,.op ⟨(some 14),none,none,.bsl 1 [(.val (.int .i64 2)),(.val (.int .i64 2))]⟩,.op ⟨(some 15),none,none,.call 101 0 [(.val (.int .i64 1)),(.tmp 14)]⟩,.op ⟨(some 16),none,none,.build [.nilFunc,.nilFunc] [(0,1,(.tmp 15)),(1,1,(.val (.func (.func 110) #[] #[])))]⟩,.ins ((.string ⟨#[102,105,110,100]⟩)) 16,.op ⟨(some 17),none,none,.bsl 1 [(.val (.int .i64 1))]⟩,.op ⟨(some 18),none,none,.call 101 0 [(.val (.int .i64 2)),(.tmp 17)]⟩,.op ⟨(some 19),none,none,.build [.nilFunc,.nilFunc] [(0,1,(.tmp 18)),(1,1,(.val (.func (.func 112) #[] #[])))]⟩,.ins ((.string ⟨#[116,101,120,116]⟩)) 19,.op ⟨(some 20),none,none,.bsl 1 [(.val (.int .i64 2))]⟩,.op ⟨(some 21),none,none,.call 101 0 [(.val (.int .i64 1)),(.tmp 20)]⟩,.op ⟨(some 22),none,none,.build [.nilFunc,.nilFunc] [(0,1,(.tmp 21)),(1,1,(.val (.func (.func 113) #[] #[])))]⟩,.ins ((.string ⟨#[110,117,109]⟩)) 22,.op ⟨(some 23),none,none,.build [.nilFunc,.nilFunc] [(0,1,(.val (.func (.func 115) #[] #[]))),(1,1,(.val (.func (.func 116) #[] #[])))]⟩,.ins ((.string ⟨#[105,102]⟩)) 23,.op ⟨(some 24),none,none,.bsl 1 [(.val (.int .i64 1)),(.val (.int .i64 1))]⟩,.op ⟨(some 25),none,none,.call 101 0 [(.val (.int .i64 1)),(.tmp 24)]⟩,.op ⟨(some 26),none,none,.build [.nilFunc,.nilFunc] [(0,1,(.tmp 25)),(1,1,(.val (.func (.func 117) #[] #[])))]⟩,.ins ((.string ⟨#[109,105,110]⟩)) 26,.op ⟨(some 27),none,none,.bsl 1 [(.val (.int .i64 1)),(.val (.int .i64 1))]⟩,.op ⟨(some 28),none,none,.call 101 0 [(.val (.int .i64 1)),(.tmp 27)]⟩,.op ⟨(some 29),none,none,.build [.nilFunc,.nilFunc] [(0,1,(.tmp 28)),(1,1,(.val (.func (.func 118) #[] #[])))]⟩,.ins ((.string ⟨#[109,97,120]⟩)) 29,.op ⟨(some 30),none,none,.mov (.tmp 1)⟩,.op ⟨(some 0),none,none,.mov (.tmp 30)⟩]
theorem zis:zcF Tryz.prog 31 (fun _=>0) zhi 128 1 (List.range' 1 40)=some z9q:=by kernel_rfl
@[congr] theorem mixW_congr {P:Program} {g:Sh.Glob} {text:Bool} {m:Nat} {K:ES→Prop} {l:List MixO} {s s':ES} (h:s=s'):z5C P g text m K l s=z5C P g text m K l s':=by rw[h]
section
variable{P:Program}{g:Sh.Glob}{text:Bool}{m x:Nat}{k:Value}{K:ES→Prop}{l:List MixO}{s:ES}{so:SOper}{ks:List Value}{xs:List TV}{y:TV}
theorem zl5:z5C P g text m K [] s=K s:=rfl
theorem zp1:z5C P g text m K (.op so::l) s=zQ P g [so] (z5C P g text m K l) (s.fgt so.news):=rfl
theorem zl4:z5C P g text m K (.ins k x::l) s=(flS m s=true∧Nat.beq x m=false∧ziS m x k text (z5C P g text m K l) s (lk s.t m) (lk s.t x)):=rfl
theorem ik:ziS m x k text K s (some (.mp ks xs)) (some y)=(findKs (kdOf text) k ks 0=some none∧(xs.all TV.fl2B&&y.fl2B)=true∧K ⟨sv s.t m (.mp (ks++[k]) (xs++[y])),s.b,s.r,s.i⟩):=rfl
end
theorem mwV:(type_of% @zl5)∧(type_of% @zp1)∧(type_of% @zl4)∧(type_of% @ik):=⟨@zl5,@zp1,@zl4,@ik⟩
def zbi:SFunc:=⟨0,.skip,[.tmp 0],false⟩
def z7u(s:ES):Prop:=exitF zbi 0 s=some (callM,[])
theorem in1(a:Int):inR [a]=[[.v (.int .i64 a)]]:=rfl
theorem ziv(g:Sh.Glob):z5C Tryz.prog g true 1 z7u z9q ⟨[(1,.mp [] [])],[],[],[]⟩:=by
 have T1:=z2h g 1 [2];have T2:=z2h g 2 [2,1];have T3:=z2h g 1 [2,2];have T4:=z2h g 2 [1];have T5:=z2h g 1 [1,1];unfold z9q;simp only[vW,seval,mwV,SOper.news,SOp.news];unfold z0c at T1 T2 T3 T4 T5;(with_reducible apply zR);simp only[vW,seval,in1];rfl;rfl;exact T1;exact km;simp only[vW,seval,in1];rfl;simp only[vW,seval,mwV,SOper.news,SOp.news];repeat(refine⟨by rfl,?_⟩)
 (with_reducible apply zR);simp only[vW,seval,in2];rfl;rfl;exact T2;exact km;simp only[vW,seval,in2];rfl;simp only[vW,seval,mwV,SOper.news,SOp.news];repeat(refine⟨by rfl,?_⟩)
 (with_reducible apply zR);simp only[vW,seval,in2];rfl;rfl;exact T2;exact km;simp only[vW,seval,in2];rfl;simp only[vW,seval,mwV,SOper.news,SOp.news];repeat(refine⟨by rfl,?_⟩)
 (with_reducible apply zR);simp only[vW,seval,in2];rfl;rfl;exact T2;exact km;simp only[vW,seval,in2];rfl;simp only[vW,seval,mwV,SOper.news,SOp.news];repeat(refine⟨by rfl,?_⟩)
 (with_reducible apply zR);simp only[vW,seval,in2];rfl;rfl;exact T3;exact km;simp only[vW,seval,in2];rfl;simp only[vW,seval,mwV,SOper.news,SOp.news];repeat(refine⟨by rfl,?_⟩)
 (with_reducible apply zR);simp only[vW,seval,in1];rfl;rfl;exact T4;exact km;simp only[vW,seval,in1];rfl;simp only[vW,seval,mwV,SOper.news,SOp.news];repeat(refine⟨by rfl,?_⟩)
 (with_reducible apply zR);simp only[vW,seval,in1];rfl;rfl;exact T1;exact km;simp only[vW,seval,in1];rfl;simp only[vW,seval,mwV,SOper.news,SOp.news];repeat(refine⟨by rfl,?_⟩)
 (with_reducible apply zR);simp only[vW,seval,in2];rfl;rfl;exact T5;exact km;simp only[vW,seval,in2];rfl;simp only[vW,seval,mwV,SOper.news,SOp.news];repeat(refine⟨by rfl,?_⟩)
 (with_reducible apply zR);simp only[vW,seval,in2];rfl;rfl;exact T5;exact km;simp only[vW,seval,in2];rfl;simp only[vW,seval,mwV,SOper.news,SOp.news];repeat(refine⟨by rfl,?_⟩)
 show exitF zbi 0 _=some (callM,[]);kernel_rfl
theorem zeL(g:Sh.Glob):zC g 59 [] [] callM []:=by
 refine⟨z1y (by kernel_rfl),fun w E us hG hm hX hl hr=> ?_⟩;obtain rfl:us=[]:=List.eq_nil_of_length_eq_zero hl.symm;have hS0:=z5v (lp:=true) (N:=31) (xs:=[]) (by decide) hm hl hr;have hn:∀(k:Nat),(startE [] []).fs.t k=none:=fun k=>rfl;refine z5b Tryz.func59 rfl ?_;refine wp_seq (wp_region ?_);show wpOps _ _ _ [0] _ _;rw[wpOps_cons];refine z2p rfl rfl (v:=.map none) (w':=w) rfl ?_;show(Code.seq _ _).wp _ _ _ _;refine wp_seq (wp_region ?_);show wpOps _ zhi _ (0::(List.range' 1 40++[])) _ _;rw[wpOps_cons];refine z2p rfl rfl (v:=.map (some w.heap.size)) (w':=w.alloc (.map #[] 0)) rfl ?_;have hnew:(w.alloc (.map #[] 0)).heap[w.heap.size]?=some (.map #[] 0):=heap_alloc_new w _;have hbel:Below w.heap.size w (w.alloc (.map #[] 0)):=(Below.refl w.heap.size w).alloc (Nat.le_refl _) _;have hS1:=hS0.same hbel;refine z8I (B:=Sh.start w E [] 31) (g:=g) (kt:=9) (et:=181) (text:=true) (t:=128) (m:=1) (b:=w.heap.size) (H:=fun _=>0) (K:=z7u) (by show 0≤1000;decide) (by show 31≤1000;decide) hG hX (by kernel_rfl) (by kernel_rfl) (by show 1<31;decide) (Nat.le_refl _) ?_ _ z9q zis ⟨[(1,.mp [] [])],[],[],[]⟩ _ _ E (ziv g) ?_ rfl
 ·intro s a w2 E2 hS hk;show Code.ret.wp _ _ a w2;refine wp_ret ?_;have hhrs:seqO (z27 Tryz.prog) Tryz.f59.results.toList=some [.tmp 0]:=by kernel_rfl
  exact z8C (F:=zbi) (os:=[]) (os':=[]) rfl rfl hhrs rfl hS hk
 ·have h1:=hS1.act (a2:=Act.put ⟨#[]++Array.replicate (31-0) undef,[]⟩ (some 0) (.map none)) (by rfl) rfl (fun k x hx=>by rw[hn]at hx;cases hx);have h2:=h1.setT (k:=1) (by show 1<31;decide) (x:=.mp [] []) (v:=.map (some w.heap.size)) (.mp [] [] w.heap.size #[] 0 (fun _=>undef) hnew rfl rfl (by simp) (by simp));have he:((startE [] []).fs.setT 1 (.mp [] []))=(⟨[(1,.mp [] [])],[],[],[]⟩:ES).fs:=by
   refine FS.ext' (fun k=> ?_) (fun k=>rfl) (fun k=>rfl) (fun k=>rfl);show z0O (lk []) 1 _ k=lk [(1,_)] k;rw[←z1V];rfl
  rw[he]at h2;exact h2
end
theorem zeg(p q:Bool):z04 Tryz.prog (do eqGuard .eql 4 (.const (.bool p)) (.const (.bool q)) (.bool p) (.bool q);binOp .eql 4 (.bool p) (.bool q))=some (.pv (.v (.bool (p==q))),.no):=by
 cases p<;>cases q<;>kernel_rfl
section
open Go.Sh.Cd1 Go.Sh.Cd6
def vC(ps:List V):List TV:=pvC (ps.flatMap V.row)
theorem z11(x:V)(ps:List V):vC (x::ps)=I x.k::I x.n::S (str x.s):: .pv (.sl 4 (V.rows x.l))::vC ps:=by
 unfold vC;rw[List.flatMap_cons,z1b];rfl
theorem z3a:vC []=[]:=rfl
theorem zgp(ps:List V):(vC ps).length=ps.length*4:=by
 induction ps with
 |nil=>rfl
 |cons p ps ih=>rw[z11];simp[ih];omega
theorem zm6(ids:List Nat)(ps:List V):List.map (fgt3 ids) (vC ps)=vC ps:=z7m ids _
theorem zm7(ps:List V):List.flatMap TV.ids1 (vC ps)=[]:=z9P _
theorem zm8(ρ:Nat→Option Nat)(ps:List V):seqO (TV.ren1 ρ) (vC ps)=some (vC ps):=z9Q ρ _
theorem vcC:(type_of% @zm6)∧(type_of% @zm7)∧(type_of% @zm8)∧(type_of% @zgp):=⟨@zm6,@zm7,@zm8,@zgp⟩
theorem zdJ(l:zB)(i:Nat):(str l).extract i l.length=str (l.drop i):=by rw[str_extract,List.take_of_length_le (by simp)]
def z2A(s:zB):Prop:=s.length≤60
def RgN(n:Int):Prop:= -1000000000000000≤n∧n≤1000000000000000
section
variable{x y z:V}
theorem zmv(g:Sh.Glob)(hx:z2A x.s):zC g 102 [.bs 1000 0 1 1] [.box (vC [x])] (nv (z0d z4C [x])) [.box (vC [x])]:=by
 have HS:=zb1 g x.s (by have:x.s.length≤60:=hx;omega);have HN:=z0X g (z16 x.s);rw[show z0d z4C [x]=z0r (z16 x.s) from rfl];simp only[z11,z3a];refine zo tf_70 ?_;generalize z0r (z16 x.s)=r at*;unfold nv at*;simp only[vW,seval];refine z7 HS ?_;exact zd HN
theorem zmw(g:Sh.Glob)(hx:z2A x.s):zC g 105 [.bs 1000 0 2 2] [.box (vC [x,y])] (nv (z0d z1E [x,y])) [.box (vC [x,y])]:=by
 have hx:x.s.length≤60:=hx;have HB:=z8j g x.s y.n (by omega);have hb:=zck x.s y.n;have HT:=z59 g (x.s.take (z1S x.s y.n)) (by rw[List.length_take];omega);rw[show z0d z1E [x,y]=z1X (x.s.take (z1S x.s y.n)) from rfl];simp only[z11,z3a];refine zo tf_72 ?_;generalize z1X (x.s.take (z1S x.s y.n))=r at*;unfold nv at*;simp only[vW,seval];refine z7 HB ?_;simp only[vW,seval,List.drop_zero];refine⟨by omega,?_⟩;exact zd HT
theorem zmx(g:Sh.Glob)(hx:z2A x.s)(hy:RgN y.n):zC g 108 [.bs 1000 0 2 2] [.box (vC [x,y])] (nv (z0d z13 [x,y])) [.box (vC [x,y])]:=by
 have hx:x.s.length≤60:=hx;obtain⟨hy0,hy1⟩:=hy;have HS:=zb1 g x.s (by omega);have hs:=zgb _ x.s (Nat.le_refl _);have HB:=z8j g x.s (z16 x.s-y.n) (by omega);have hb:=zck x.s (z16 x.s-y.n);have HT:=z59 g (x.s.drop (z1S x.s (z16 x.s-y.n))) (by rw[List.length_drop];omega);have w1:IntKind.i64.wrap ((z16 x.s:Int) - y.n)=(z16 x.s:Int) - y.n:=wrap64 (by omega) (by omega);have hd:=zdJ x.s (z1S x.s (z16 x.s-y.n));rw[show z0d z13 [x,y]=z1X (x.s.drop (z1S x.s (z16 x.s-y.n))) from rfl];simp only[z11,z3a];refine zo tf_73 ?_;generalize z1X (x.s.drop (z1S x.s (z16 x.s-y.n)))=r at*;unfold nv at*;simp only[vW,seval];refine z7 HS ?_;simp only[vW,seval,w1];refine z7 HB ?_;simp only[vW,seval,hd];refine⟨by omega,?_⟩;exact zd HT
theorem zmy(g:Sh.Glob)(hx:z2A x.s):zC g 109 [.bs 1000 0 2 2] [.box (vC [x,y])] (nv (z0d z1D [x,y])) [.box (vC [x,y])]:=by
 have hx:x.s.length≤60:=hx;have HB:=z8j g x.s y.n (by omega);have hb:=zck x.s y.n;have HT:=z59 g (x.s.drop (z1S x.s y.n)) (by rw[List.length_drop];omega);have hd:=zdJ x.s (z1S x.s y.n);rw[show z0d z1D [x,y]=z1X (x.s.drop (z1S x.s y.n)) from rfl];simp only[z11,z3a];refine zo tf_74 ?_;generalize z1X (x.s.drop (z1S x.s y.n))=r at*;unfold nv at*;simp only[vW,seval];refine z7 HB ?_;simp only[vW,seval,hd];refine⟨by omega,?_⟩;exact zd HT
theorem zmz(m:Nat)(hx:z2A x.s):zC (glT m) 110 [.bs 1000 0 2 2] [.box (vC [x,y])] (nv (z0d z2l [x,y])) [.box (vC [x,y])]:=by
 have HF:=zkA m x.s y.s (by have:x.s.length≤60:=hx;omega);have HN:=z0X (glT m) (z9v x.s y.s);rw[show z0d z2l [x,y]=z0r (z9v x.s y.s) from rfl];simp only[z11,z3a];refine zo tf_75 ?_;generalize z0r (z9v x.s y.s)=r at*;unfold nv at*;simp only[vW,seval];refine z7 HF ?_;exact zd HN
theorem zmA(m:Nat)(hx:RgN x.n):zC (glT m) 112 [.bs 1000 0 1 1] [.box (vC [x])] (nv (z0d z1l [x])) [.box (vC [x])]:=by
 obtain⟨h0,h1⟩:=hx;have HI:=zhv m x.n (by omega) (by omega);have hl:(Lib.itoa x.n).length≤4611686018427387904:=by
  have:=zeW x.n;have hh:∀n:Nat,(Lib.decDigits n).length≤n+1:=fun n=>by
   induction n using Nat.strongRecOn with
   |_ n ih=>
    by_cases h:n<10
    ·rw[Lib.decDigits_one h];simp
    ·rw[Lib.decDigits,dif_neg h,List.length_append];have:=ih (n / 10) (by omega);simp;omega
  unfold Lib.itoa;split
  ·have:=hh x.n.natAbs;simp;omega
  ·have:=hh x.n.toNat;omega
 have HT:=z59 (glT m) (Lib.itoa x.n) hl;rw[show z0d z1l [x]=z1X (Lib.itoa x.n) from rfl];simp only[z11,z3a];refine zo tf_76 ?_;generalize z1X (Lib.itoa x.n)=r at*;unfold nv at*;simp only[vW,seval];refine z7 HI ?_;exact zd HT
theorem zmB(m:Nat)(hx:z2A x.s):zC (glE m) 113 [.bs 1000 0 1 1] [.box (vC [x])] (nv (z0d z4D [x])) [.box (vC [x])]:=by
 have HF:=zqx m x.s (by have:x.s.length≤60:=hx;omega);have HN:=z0X (glE m) (z44 x.s);rw[show z0d z4D [x]=z0r (z44 x.s) from rfl];simp only[z11,z3a];refine zo tf_77 ?_;generalize z0r (z44 x.s)=r at*;unfold nv at*;simp only[vW,seval];refine z7 HF ?_;exact zd HN
theorem zmC(g:Sh.Glob):zC g 116 [.bs 1000 0 3 3] [.box (vC [x,y,z])] (tv (z0d nIf [x,y,z])) [.box (vC [x,y,z])]:=by
 rw[show z0d nIf [x,y,z]=if x.n≠0 then y else z from rfl];simp only[z11,z3a];refine zo tf_78 ?_;by_cases h:x.n=0
 ·rw[if_neg (by simpa using h)];simp only[vW,seval,h]
 ·rw[if_pos h];simp only[vW,seval,h]
theorem zmD(g:Sh.Glob):zC g 117 [.bs 1000 0 2 2] [.box (vC [x,y])] (nv (z0d z4X [x,y])) [.box (vC [x,y])]:=by
 have HN:=z0X g (min x.n y.n);rw[show z0d z4X [x,y]=z0r (min x.n y.n) from rfl];simp only[z11,z3a];refine zo tf_79 ?_;generalize z0r (min x.n y.n)=r at*;unfold nv at*;simp only[vW,seval];exact zd HN
theorem zka(g:Sh.Glob):zC g 118 [.bs 1000 0 2 2] [.box (vC [x,y])] (nv (z0d z5D [x,y])) [.box (vC [x,y])]:=by
 have HN:=z0X g (max x.n y.n);rw[show z0d z5D [x,y]=z0r (max x.n y.n) from rfl];simp only[z11,z3a];refine zo tf_71 ?_;generalize z0r (max x.n y.n)=r at*;unfold nv at*;simp only[vW,seval];exact zd HN
end
theorem zai(g:Sh.Glob)(s:zB)(a b:Int)(ha:RgN a)(hs:s=[47]∨s=[37]):zC g 181 [S (str s),I a,I b] [] (I (z5Q s a b)) []:=by
 have q1:=bS [47];have e1:(([37]:zB)==[47])=false:=rfl;obtain⟨a0,a1⟩:=ha;unfold z5Q;refine za tf_89 ?_;by_cases h:b=0
 ·subst h;simp only[vW,seval]
 ·rw[if_neg h];rcases hs with rfl|rfl
  ·have hb: -1000000000000000≤a.tdiv b∧a.tdiv b≤1000000000000000:=by
    have h1:=Int.natAbs_tdiv_le_natAbs a b;omega
   have w1:IntKind.i64.wrap (a.tdiv b)=a.tdiv b:=wrap64 (by omega) (by omega);simp only[vW,seval,h,q1,w1]
  ·simp only[vW,seval,h,q1,e1];rfl
end
end Go.Proofs.YtbkgnekfigknhaaGreatDoor
end
