/- Merged texts: Sn1 Sy5 Pt0. No statement of the program is proved here. -/
import Derived.Test.YtpmlapgbmgbilaaGreatDoorR17
set_option linter.unusedSimpArgs false
set_option linter.unusedVariables false
set_option maxRecDepth 100000
set_option maxHeartbeats 8000000
section
namespace Go.Proofs.YtpmlapgbmgbilaaGreatDoor
open Go Go.RowKit Go.Mor
section
open Go.Sh Go.Sh.Cd1
theorem z0Q(b:UInt8):b.toNat<256:=b.toNat_lt
theorem wr3:IntKind.i64.wrap 3=3:=rfl
theorem wr4:IntKind.i64.wrap 4=4:=rfl
theorem wr5:IntKind.i64.wrap 5=5:=rfl
theorem getD_some{l:zB}{i:Nat}{b:UInt8}(h:l[i]?=some b):l.getD i 0=b:=by rw[List.getD_eq_getElem?_getD,h];rfl
theorem zoA{l:zB}(h:0<l.length):z2E l=z03 l.length (l.getD 0 0).toNat (l.getD 1 0).toNat (l.getD 2 0).toNat (l.getD 3 0).toNat:=by
 unfold z2E;rw[if_neg (by rintro rfl;simp at h)]
theorem at_{l:zB}{i:Nat}(h:i<l.length):∃b,l[i]?=some b:=⟨_,gE h⟩
theorem z3i(n:Nat)(h:n<256):IntKind.i64.wrap (n:Int)=(n:Int):=wrap64 (by omega) (by omega)
theorem z8d{P:Program}{g:Sh.Glob}{a:SCode}{Q:SExit→ES→Prop}{k:Nat}{s:ES}:z7o P g a Q (k+1) s=swp P g a (z2G (z7o P g a Q k) Q) s:=rfl
theorem sg{a b:Int}(h:a=b):some (TV.pv (PV.v (Value.int IntKind.i64 a)))=some (TV.pv (PV.v (Value.int IntKind.i64 b))):=by rw[h]
theorem zs7(g:Sh.Glob)(l:zB)(b0:UInt8)(hl:0<l.length)(e0:l[0]?=some b0)(hc:b0.toNat<128):zC g 235 [S (str l)] [] (I (z03 l.length b0.toNat (l.getD 1 0).toNat (l.getD 2 0).toNat (l.getD 3 0).toNat:Nat)) []:=by
 have hb:=z0Q b0;have c0:=z3i b0.toNat hb;have hl0:¬(l.length:Int)=0:=by omega
 have t0:(b0.toNat:Int)<128:=by omega
 have t1:¬194≤(b0.toNat:Int):=by omega
 have t2:(b0.toNat:Int)≤223:=by omega
 have t3:¬224≤(b0.toNat:Int):=by omega
 have t4:(b0.toNat:Int)≤239:=by omega
 have t5:¬240≤(b0.toNat:Int):=by omega
 have t6:(b0.toNat:Int)≤244:=by omega
 have t7:¬(b0.toNat:Int)=224:=by omega
 have t8:¬(b0.toNat:Int)=237:=by omega
 have t9:¬(b0.toNat:Int)=240:=by omega
 have t10:¬(b0.toNat:Int)=244:=by omega
 refine za tf_138 ?_;simp only[vcA,seval,I,S,e0,c0,hl0,t0,t1,t2,t3,t4,t5,t6,t7,t8,t9,t10];exact sg (by unfold z03;(repeat' split)<;>omega)
theorem zs8(g:Sh.Glob)(l:zB)(b0:UInt8)(hl:0<l.length)(e0:l[0]?=some b0)(hc:128≤b0.toNat∧b0.toNat≤193):zC g 235 [S (str l)] [] (I (z03 l.length b0.toNat (l.getD 1 0).toNat (l.getD 2 0).toNat (l.getD 3 0).toNat:Nat)) []:=by
 have hb:=z0Q b0;have c0:=z3i b0.toNat hb;have hl0:¬(l.length:Int)=0:=by omega
 have t0:¬(b0.toNat:Int)<128:=by omega
 have t1:¬194≤(b0.toNat:Int):=by omega
 have t2:(b0.toNat:Int)≤223:=by omega
 have t3:¬224≤(b0.toNat:Int):=by omega
 have t4:(b0.toNat:Int)≤239:=by omega
 have t5:¬240≤(b0.toNat:Int):=by omega
 have t6:(b0.toNat:Int)≤244:=by omega
 have t7:¬(b0.toNat:Int)=224:=by omega
 have t8:¬(b0.toNat:Int)=237:=by omega
 have t9:¬(b0.toNat:Int)=240:=by omega
 have t10:¬(b0.toNat:Int)=244:=by omega
 refine za tf_138 ?_;simp only[vcA,seval,I,S,e0,c0,hl0,t0,t1,t2,t3,t4,t5,t6,t7,t8,t9,t10];exact sg (by unfold z03;(repeat' split)<;>omega)
theorem zs9(g:Sh.Glob)(l:zB)(b0:UInt8)(hl:0<l.length)(e0:l[0]?=some b0)(hc:194≤b0.toNat∧b0.toNat≤223):zC g 235 [S (str l)] [] (I (z03 l.length b0.toNat (l.getD 1 0).toNat (l.getD 2 0).toNat (l.getD 3 0).toNat:Nat)) []:=by
 have hb:=z0Q b0;have c0:=z3i b0.toNat hb;have hl0:¬(l.length:Int)=0:=by omega
 have t0:¬(b0.toNat:Int)<128:=by omega
 have t1:194≤(b0.toNat:Int):=by omega
 have t2:(b0.toNat:Int)≤223:=by omega
 have t3:¬224≤(b0.toNat:Int):=by omega
 have t4:(b0.toNat:Int)≤239:=by omega
 have t5:¬240≤(b0.toNat:Int):=by omega
 have t6:(b0.toNat:Int)≤244:=by omega
 have t7:¬(b0.toNat:Int)=224:=by omega
 have t8:¬(b0.toNat:Int)=237:=by omega
 have t9:¬(b0.toNat:Int)=240:=by omega
 have t10:¬(b0.toNat:Int)=244:=by omega
 refine za tf_138 ?_;by_cases hn:(l.length:Int)<2
 ·simp only[vcA,seval,I,S,e0,c0,hl0,hn,t0,t1,t2,t3,t4,t5,t6,t7,t8,t9,t10];exact sg (by unfold z03;(repeat' split)<;>omega)
 obtain⟨b1,e1⟩:=at_ (l:=l) (i:=1) (by omega);have hb1:=z0Q b1;have g1:=getD_some e1;have c1:=z3i b1.toNat hb1;rw[g1];simp only[vcA,seval,I,S,e0,c0,e1,c1,hl0,hn,t0,t1,t2,t3,t4,t5,t6,t7,t8,t9,t10];refine⟨fun h1=>sg (by unfold z03;(repeat' split)<;>omega),fun h1=>⟨fun h2=>sg (by unfold z03;(repeat' split)<;>omega),fun h2=> ?_⟩⟩;refine z3s 1 ?_;simp only[vcA,seval,I,S,z8d,e1,wr3,wr4,wr5];exact sg (by unfold z03;(repeat' split)<;>omega)
theorem zsa(g:Sh.Glob)(l:zB)(b0:UInt8)(hl:0<l.length)(e0:l[0]?=some b0)(hc:b0.toNat=224):zC g 235 [S (str l)] [] (I (z03 l.length b0.toNat (l.getD 1 0).toNat (l.getD 2 0).toNat (l.getD 3 0).toNat:Nat)) []:=by
 have hb:=z0Q b0;have c0:=z3i b0.toNat hb;have hl0:¬(l.length:Int)=0:=by omega
 refine za tf_138 ?_;have q0:(b0.toNat:Int)=224:=by omega
 have q1:IntKind.i64.wrap 224=224:=rfl;by_cases hn:(l.length:Int)<3
 ·simp only[vcA,seval,I,S,e0,c0,hl0,hn,q0,q1];exact sg (by unfold z03;(repeat' split)<;>omega)
 obtain⟨b1,e1⟩:=at_ (l:=l) (i:=1) (by omega);have hb1:=z0Q b1;have g1:=getD_some e1;obtain⟨b2,e2⟩:=at_ (l:=l) (i:=2) (by omega);have hb2:=z0Q b2;have g2:=getD_some e2;have c1:=z3i b1.toNat hb1;rw[g1,g2];simp only[vcA,seval,I,S,e0,c0,e1,c1,hl0,hn,q0,q1];refine⟨fun h1=>sg (by unfold z03;(repeat' split)<;>omega),fun h1=>⟨fun h2=>sg (by unfold z03;(repeat' split)<;>omega),fun h2=> ?_⟩⟩;refine z3s 2 ?_;simp only[vcA,seval,I,S,z8d,e1,e2,wr3,wr4,wr5]
 repeat' (first|(apply And.intro)|(intro _))
 all_goals exact sg (by unfold z03;(repeat' split)<;>omega)
theorem zsb(g:Sh.Glob)(l:zB)(b0:UInt8)(hl:0<l.length)(e0:l[0]?=some b0)(hc:225≤b0.toNat∧b0.toNat≤239∧b0.toNat≠237):zC g 235 [S (str l)] [] (I (z03 l.length b0.toNat (l.getD 1 0).toNat (l.getD 2 0).toNat (l.getD 3 0).toNat:Nat)) []:=by
 have hb:=z0Q b0;have c0:=z3i b0.toNat hb;have hl0:¬(l.length:Int)=0:=by omega
 have t0:¬(b0.toNat:Int)<128:=by omega
 have t1:194≤(b0.toNat:Int):=by omega
 have t2:¬(b0.toNat:Int)≤223:=by omega
 have t3:224≤(b0.toNat:Int):=by omega
 have t4:(b0.toNat:Int)≤239:=by omega
 have t5:¬240≤(b0.toNat:Int):=by omega
 have t6:(b0.toNat:Int)≤244:=by omega
 have t7:¬(b0.toNat:Int)=224:=by omega
 have t8:¬(b0.toNat:Int)=237:=by omega
 have t9:¬(b0.toNat:Int)=240:=by omega
 have t10:¬(b0.toNat:Int)=244:=by omega
 refine za tf_138 ?_;by_cases hn:(l.length:Int)<3
 ·simp only[vcA,seval,I,S,e0,c0,hl0,hn,t0,t1,t2,t3,t4,t5,t6,t7,t8,t9,t10];exact sg (by unfold z03;(repeat' split)<;>omega)
 obtain⟨b1,e1⟩:=at_ (l:=l) (i:=1) (by omega);have hb1:=z0Q b1;have g1:=getD_some e1;obtain⟨b2,e2⟩:=at_ (l:=l) (i:=2) (by omega);have hb2:=z0Q b2;have g2:=getD_some e2;have c1:=z3i b1.toNat hb1;rw[g1,g2];simp only[vcA,seval,I,S,e0,c0,e1,c1,hl0,hn,t0,t1,t2,t3,t4,t5,t6,t7,t8,t9,t10];refine⟨fun h1=>sg (by unfold z03;(repeat' split)<;>omega),fun h1=>⟨fun h2=>sg (by unfold z03;(repeat' split)<;>omega),fun h2=> ?_⟩⟩;refine z3s 2 ?_;simp only[vcA,seval,I,S,z8d,e1,e2,wr3,wr4,wr5]
 repeat' (first|(apply And.intro)|(intro _))
 all_goals exact sg (by unfold z03;(repeat' split)<;>omega)
theorem zsc(g:Sh.Glob)(l:zB)(b0:UInt8)(hl:0<l.length)(e0:l[0]?=some b0)(hc:b0.toNat=237):zC g 235 [S (str l)] [] (I (z03 l.length b0.toNat (l.getD 1 0).toNat (l.getD 2 0).toNat (l.getD 3 0).toNat:Nat)) []:=by
 have hb:=z0Q b0;have c0:=z3i b0.toNat hb;have hl0:¬(l.length:Int)=0:=by omega
 refine za tf_138 ?_;have q0:(b0.toNat:Int)=237:=by omega
 have q1:IntKind.i64.wrap 237=237:=rfl;by_cases hn:(l.length:Int)<3
 ·simp only[vcA,seval,I,S,e0,c0,hl0,hn,q0,q1];exact sg (by unfold z03;(repeat' split)<;>omega)
 obtain⟨b1,e1⟩:=at_ (l:=l) (i:=1) (by omega);have hb1:=z0Q b1;have g1:=getD_some e1;obtain⟨b2,e2⟩:=at_ (l:=l) (i:=2) (by omega);have hb2:=z0Q b2;have g2:=getD_some e2;have c1:=z3i b1.toNat hb1;rw[g1,g2];simp only[vcA,seval,I,S,e0,c0,e1,c1,hl0,hn,q0,q1];refine⟨fun h1=>sg (by unfold z03;(repeat' split)<;>omega),fun h1=>⟨fun h2=>sg (by unfold z03;(repeat' split)<;>omega),fun h2=> ?_⟩⟩;refine z3s 2 ?_;simp only[vcA,seval,I,S,z8d,e1,e2,wr3,wr4,wr5]
 repeat' (first|(apply And.intro)|(intro _))
 all_goals exact sg (by unfold z03;(repeat' split)<;>omega)
theorem zsd(g:Sh.Glob)(l:zB)(b0:UInt8)(hl:0<l.length)(e0:l[0]?=some b0)(hc:b0.toNat=240):zC g 235 [S (str l)] [] (I (z03 l.length b0.toNat (l.getD 1 0).toNat (l.getD 2 0).toNat (l.getD 3 0).toNat:Nat)) []:=by
 have hb:=z0Q b0;have c0:=z3i b0.toNat hb;have hl0:¬(l.length:Int)=0:=by omega
 refine za tf_138 ?_;have q0:(b0.toNat:Int)=240:=by omega
 have q1:IntKind.i64.wrap 240=240:=rfl;by_cases hn:(l.length:Int)<4
 ·simp only[vcA,seval,I,S,e0,c0,hl0,hn,q0,q1];exact sg (by unfold z03;(repeat' split)<;>omega)
 obtain⟨b1,e1⟩:=at_ (l:=l) (i:=1) (by omega);have hb1:=z0Q b1;have g1:=getD_some e1;obtain⟨b2,e2⟩:=at_ (l:=l) (i:=2) (by omega);have hb2:=z0Q b2;have g2:=getD_some e2;obtain⟨b3,e3⟩:=at_ (l:=l) (i:=3) (by omega);have hb3:=z0Q b3;have g3:=getD_some e3;have c1:=z3i b1.toNat hb1;rw[g1,g2,g3];simp only[vcA,seval,I,S,e0,c0,e1,c1,hl0,hn,q0,q1];refine⟨fun h1=>sg (by unfold z03;(repeat' split)<;>omega),fun h1=>⟨fun h2=>sg (by unfold z03;(repeat' split)<;>omega),fun h2=> ?_⟩⟩;refine z3s 3 ?_;simp only[vcA,seval,I,S,z8d,e1,e2,e3,wr3,wr4,wr5]
 repeat' (first|(apply And.intro)|(intro _))
 all_goals exact sg (by unfold z03;(repeat' split)<;>omega)
theorem zse(g:Sh.Glob)(l:zB)(b0:UInt8)(hl:0<l.length)(e0:l[0]?=some b0)(hc:241≤b0.toNat∧b0.toNat≤243):zC g 235 [S (str l)] [] (I (z03 l.length b0.toNat (l.getD 1 0).toNat (l.getD 2 0).toNat (l.getD 3 0).toNat:Nat)) []:=by
 have hb:=z0Q b0;have c0:=z3i b0.toNat hb;have hl0:¬(l.length:Int)=0:=by omega
 have t0:¬(b0.toNat:Int)<128:=by omega
 have t1:194≤(b0.toNat:Int):=by omega
 have t2:¬(b0.toNat:Int)≤223:=by omega
 have t3:224≤(b0.toNat:Int):=by omega
 have t4:¬(b0.toNat:Int)≤239:=by omega
 have t5:240≤(b0.toNat:Int):=by omega
 have t6:(b0.toNat:Int)≤244:=by omega
 have t7:¬(b0.toNat:Int)=224:=by omega
 have t8:¬(b0.toNat:Int)=237:=by omega
 have t9:¬(b0.toNat:Int)=240:=by omega
 have t10:¬(b0.toNat:Int)=244:=by omega
 refine za tf_138 ?_;by_cases hn:(l.length:Int)<4
 ·simp only[vcA,seval,I,S,e0,c0,hl0,hn,t0,t1,t2,t3,t4,t5,t6,t7,t8,t9,t10];exact sg (by unfold z03;(repeat' split)<;>omega)
 obtain⟨b1,e1⟩:=at_ (l:=l) (i:=1) (by omega);have hb1:=z0Q b1;have g1:=getD_some e1;obtain⟨b2,e2⟩:=at_ (l:=l) (i:=2) (by omega);have hb2:=z0Q b2;have g2:=getD_some e2;obtain⟨b3,e3⟩:=at_ (l:=l) (i:=3) (by omega);have hb3:=z0Q b3;have g3:=getD_some e3;have c1:=z3i b1.toNat hb1;rw[g1,g2,g3];simp only[vcA,seval,I,S,e0,c0,e1,c1,hl0,hn,t0,t1,t2,t3,t4,t5,t6,t7,t8,t9,t10];refine⟨fun h1=>sg (by unfold z03;(repeat' split)<;>omega),fun h1=>⟨fun h2=>sg (by unfold z03;(repeat' split)<;>omega),fun h2=> ?_⟩⟩;refine z3s 3 ?_;simp only[vcA,seval,I,S,z8d,e1,e2,e3,wr3,wr4,wr5]
 repeat' (first|(apply And.intro)|(intro _))
 all_goals exact sg (by unfold z03;(repeat' split)<;>omega)
theorem zsf(g:Sh.Glob)(l:zB)(b0:UInt8)(hl:0<l.length)(e0:l[0]?=some b0)(hc:b0.toNat=244):zC g 235 [S (str l)] [] (I (z03 l.length b0.toNat (l.getD 1 0).toNat (l.getD 2 0).toNat (l.getD 3 0).toNat:Nat)) []:=by
 have hb:=z0Q b0;have c0:=z3i b0.toNat hb;have hl0:¬(l.length:Int)=0:=by omega
 refine za tf_138 ?_;have q0:(b0.toNat:Int)=244:=by omega
 have q1:IntKind.i64.wrap 244=244:=rfl;by_cases hn:(l.length:Int)<4
 ·simp only[vcA,seval,I,S,e0,c0,hl0,hn,q0,q1];exact sg (by unfold z03;(repeat' split)<;>omega)
 obtain⟨b1,e1⟩:=at_ (l:=l) (i:=1) (by omega);have hb1:=z0Q b1;have g1:=getD_some e1;obtain⟨b2,e2⟩:=at_ (l:=l) (i:=2) (by omega);have hb2:=z0Q b2;have g2:=getD_some e2;obtain⟨b3,e3⟩:=at_ (l:=l) (i:=3) (by omega);have hb3:=z0Q b3;have g3:=getD_some e3;have c1:=z3i b1.toNat hb1;rw[g1,g2,g3];simp only[vcA,seval,I,S,e0,c0,e1,c1,hl0,hn,q0,q1];refine⟨fun h1=>sg (by unfold z03;(repeat' split)<;>omega),fun h1=>⟨fun h2=>sg (by unfold z03;(repeat' split)<;>omega),fun h2=> ?_⟩⟩;refine z3s 3 ?_;simp only[vcA,seval,I,S,z8d,e1,e2,e3,wr3,wr4,wr5]
 repeat' (first|(apply And.intro)|(intro _))
 all_goals exact sg (by unfold z03;(repeat' split)<;>omega)
theorem zsg(g:Sh.Glob)(l:zB)(b0:UInt8)(hl:0<l.length)(e0:l[0]?=some b0)(hc:245≤b0.toNat):zC g 235 [S (str l)] [] (I (z03 l.length b0.toNat (l.getD 1 0).toNat (l.getD 2 0).toNat (l.getD 3 0).toNat:Nat)) []:=by
 have hb:=z0Q b0;have c0:=z3i b0.toNat hb;have hl0:¬(l.length:Int)=0:=by omega
 have t0:¬(b0.toNat:Int)<128:=by omega
 have t1:194≤(b0.toNat:Int):=by omega
 have t2:¬(b0.toNat:Int)≤223:=by omega
 have t3:224≤(b0.toNat:Int):=by omega
 have t4:¬(b0.toNat:Int)≤239:=by omega
 have t5:240≤(b0.toNat:Int):=by omega
 have t6:¬(b0.toNat:Int)≤244:=by omega
 have t7:¬(b0.toNat:Int)=224:=by omega
 have t8:¬(b0.toNat:Int)=237:=by omega
 have t9:¬(b0.toNat:Int)=240:=by omega
 have t10:¬(b0.toNat:Int)=244:=by omega
 refine za tf_138 ?_;simp only[vcA,seval,I,S,e0,c0,hl0,t0,t1,t2,t3,t4,t5,t6,t7,t8,t9,t10];exact sg (by unfold z03;(repeat' split)<;>omega)
theorem zqF(g:Sh.Glob)(l:zB):zC g 235 [S (str l)] [] (I (z2E l)) []:=by
 by_cases h0:l.length=0
 ·have:l=[]:=List.eq_nil_of_length_eq_zero h0;subst this;refine za tf_138 ?_;simp only[vcA,seval,I,S,Int.natCast_zero,List.length_nil];rfl
 have hl:0<l.length:=by omega
 obtain⟨b0,e0⟩:=at_ hl;rw[zoA hl,getD_some e0];have hb:=z0Q b0;by_cases c0:b0.toNat<128
 ·exact zs7 g l b0 hl e0 c0
 by_cases c1:128≤b0.toNat∧b0.toNat≤193
 ·exact zs8 g l b0 hl e0 c1
 by_cases c2:194≤b0.toNat∧b0.toNat≤223
 ·exact zs9 g l b0 hl e0 c2
 by_cases c3:b0.toNat=224
 ·exact zsa g l b0 hl e0 c3
 by_cases c4:225≤b0.toNat∧b0.toNat≤239∧b0.toNat≠237
 ·exact zsb g l b0 hl e0 c4
 by_cases c5:b0.toNat=237
 ·exact zsc g l b0 hl e0 c5
 by_cases c6:b0.toNat=240
 ·exact zsd g l b0 hl e0 c6
 by_cases c7:241≤b0.toNat∧b0.toNat≤243
 ·exact zse g l b0 hl e0 c7
 by_cases c8:b0.toNat=244
 ·exact zsf g l b0 hl e0 c8
 exact zsg g l b0 hl e0 (by omega)
def z7d:Nat→zB→Bool
 |0,_=>true
 |n+1,l=>match l with
  |[]=>true
  |b::r=> !(z2E (b::r)==0)&& !decide (b.toNat<32)&& !(b.toNat==127)&&z7d n ((b::r).drop (z2E (b::r)))
def z35(l:zB):Bool:=z7d l.length l
theorem zfq:∀(n:Nat) (l:zB),l.length≤n→z7d n l=z35 l:=by
 intro n
 induction n using Nat.strongRecOn with
 |_ n ih=>
  intro l hl;unfold z35;cases l with
  |nil=>cases n<;>rfl
  |cons b r=>
   obtain⟨m,rfl⟩:∃m,n=m+1:=⟨n-1,by simp at hl;omega⟩
   simp only[z7d,List.length_cons];by_cases h0:z2E (b::r)=0
   ·simp[h0]
   ·have h1:((b::r).drop (z2E (b::r))).length≤r.length:=by simp;omega
    simp at hl;rw[ih m (by omega) _ (by omega)];by_cases he:r.length=m
    ·subst he;rw[ih r.length (by omega) _ h1]
    ·rw[ih r.length (by omega) _ h1]
theorem zak(b:UInt8)(r:zB):z35 (b::r)=(!(z2E (b::r)==0)&& !decide (b.toNat<32)&& !(b.toNat==127)&&z35 ((b::r).drop (z2E (b::r)))):=by
 conv=>lhs;unfold z35
 simp only[z7d,List.length_cons];by_cases h0:z2E (b::r)=0
 ·simp[h0]
 ·rw[zfq r.length _ (by simp;omega)]
theorem zoB(l:zB):z2E l≤l.length∧z2E l≤4:=by
 unfold z2E;cases l with
 |nil=>simp
 |cons b r=>
  rw[if_neg (by simp)];unfold z03;simp only[List.length_cons]
  repeat' split
  all_goals omega
theorem zoF(l:zB)(a:Nat):(str l).extract a l.length=str (l.drop a):=by
 rw[str_extract,List.take_of_length_le (by simp)]
theorem zlr(g:Sh.Glob)(l:zB)(hl:l.length≤9223372036854775807):zC g 215 [S (str l)] [] (.pv (.v (.bool (z35 l)))) []:=by
 refine za tf_134 ?_;obtain⟨r,hr⟩:∃r,z35 l=r:=⟨_,rfl⟩
 rw[hr];simp only[vW,seval];refine zk (σ:={ i:Nat // i≤l.length∧r=z35 (l.drop i) }) (fun i=>⟨[(0,S (str l)),(3,I (i.1:Int))],[],[],[]⟩) (fun i=>l.length-i.1) ⟨0,Nat.zero_le _,hr.symm⟩ ?_ ?_
 ·exact lwA
 rintro⟨i,hi,hT⟩;by_cases hlt:i<l.length
 ·have d1:(i:Int)<(l.length:Int):=by omega
  have hd:=zoF l i;obtain⟨b,eb⟩:=at_ hlt;have hcons:l.drop i=b::l.drop (i+1):=by
   rw[List.drop_eq_getElem_cons hlt];congr 1;rw[gE hlt]at eb;exact Option.some.inj eb
  have hs:=zoB (l.drop i);have hb:=zak b (l.drop (i+1));rw[←hcons,←hT]at hb;simp only[List.length_drop]at hs;have HS:=zqF g (l.drop i);simp only[vW,seval,d1,hd];refine⟨by omega,?_⟩;refine z7 HS ?_;generalize z2E (l.drop i)=n at hs hb ⊢;by_cases h0:n=0
  ·have d2:(n:Int)=0:=by omega
   have hf:r=false:=by rw[hb];simp[h0]
   subst hf;simp only[vW,seval,d2]
  have d2:¬(n:Int)=0:=by omega
  by_cases h1:b.toNat<32
  ·have d3:(b.toNat:Int)<32:=by omega
   have hf:r=false:=by rw[hb];simp[h1]
   subst hf;simp only[vW,seval,d2,eb,d3]
  have d3:¬(b.toNat:Int)<32:=by omega
  by_cases h2:b.toNat=127
  ·have d4:(b.toNat:Int)=127:=by omega
   have hf:r=false:=by rw[hb];simp[h2]
   subst hf;simp only[vW,seval,d2,eb,d3,d4]
  have d4:¬(b.toNat:Int)=127:=by omega
  have w1:IntKind.i64.wrap ((i:Int)+(n:Int))=((i+n:Nat):Int):=wG;have hT2:r=z35 (l.drop (i+n)):=by rw[hb,List.drop_drop];simp[h0,h1,h2]
  simp only[vW,seval,d2,eb,d3,d4,w1];refine zc ⟨i+n,by omega,hT2⟩ (by show l.length-(i+n)<l.length-i;omega) ?_;exact lwA
 ·have d1:¬(i:Int)<(l.length:Int):=by omega
  have hf:r=true:=by rw[hT,List.drop_eq_nil_of_le (by omega)];rfl
  subst hf;simp only[vW,seval,d1]
end
theorem z9q(l:zB)(i:Nat):(l.getD i 0).toNat<256:=(l.getD i 0).toNat_lt
theorem zgd(b:UInt8)(t:zB):z2E (b::t)=if(Lib.decodeL (b::t)).1=65533∧(Lib.decodeL (b::t)).2=1 then 0 else(Lib.decodeL (b::t)).2:=by
 rw[Lib.decodeL_N,z2E,if_neg (by simp)];exact zge _ _ _ _ _ (z9q _ _) (z9q _ _) (z9q _ _) (z9q _ _)
theorem zqC(n b0 b1 b2 b3:Nat):(b0<128→(Lib.decodeN n b0 b1 b2 b3).1=b0)∧(128≤b0→128≤(Lib.decodeN n b0 b1 b2 b3).1):=by
 unfold Lib.decodeN;refine⟨fun h=>by rw[if_pos h],fun h=> ?_⟩;rw[if_neg (by omega)]
 (repeat' split)<;>simp only<;>omega
theorem zh1(b:UInt8)(t:zB):z3T (Lib.decodeL (b::t)).1=(!decide (b.toNat<32)&& !(b.toNat==127)):=by
 rw[Lib.decodeL_N];have h:=zqC (b::t).length ((b::t).getD 0 0).toNat ((b::t).getD 1 0).toNat ((b::t).getD 2 0).toNat ((b::t).getD 3 0).toNat;have e:(b::t).getD 0 0=b:=rfl;rw[e]at h ⊢;generalize(Lib.decodeN _ _ _ _ _).1=r at h ⊢;unfold z3T;rw[Bool.eq_iff_iff];rcases Nat.lt_or_ge b.toNat 128 with hb|hb
 ·rw[h.1 hb];simp
 ·have:=h.2 hb;simp;omega
theorem zlq:∀(n:Nat) (l:zB),l.length≤n→z35 l=(Lib.validD l&&z38 l):=by
 intro n
 induction n with
 |zero=>intro l hl;obtain rfl:=List.eq_nil_of_length_eq_zero (by omega:l.length=0);rfl
 |succ n ih=>
  intro l hl;cases l with
  |nil=>rfl
  |cons b t=>
   rw[zak,Lib.validD_step _ (by simp),z5h _ (by simp),zh1,zgd];have hw:=Lib.decodeL_width (b::t);split
   ·simp
   ·rw[ih _ (by simp at hl ⊢;omega)];have h0:((Lib.decodeL (b::t)).2==0)=false:=by simp;omega
    rw[h0];generalize Lib.validD _=p;generalize z38 _=q;cases p<;>cases q<;>simp
end Go.Proofs.YtpmlapgbmgbilaaGreatDoor
end
