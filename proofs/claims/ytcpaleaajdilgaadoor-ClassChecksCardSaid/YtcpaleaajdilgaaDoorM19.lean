/- Merged texts: Sn1 Sy5 Pt0 Cd2 Zt1 Cd7 Zo5 Zo2 Zt9 Zt2 Zl6. No statement of the program is proved here. -/
import Derived.Test.YtcpaleaajdilgaaDoorM18
set_option linter.unusedSimpArgs false
set_option linter.unusedVariables false
set_option maxRecDepth 100000
set_option maxHeartbeats 8000000
section
namespace Go.Proofs.YtcpaleaajdilgaaDoor
open Go Go.RowKit Go.Mor
section
open Go.Sh Go.Sh.Cd1
theorem zG(b:UInt8):b.toNat<256:=b.toNat_lt
theorem wr3:IntKind.i64.wrap 3=3:=rfl
theorem wr4:IntKind.i64.wrap 4=4:=rfl
theorem wr5:IntKind.i64.wrap 5=5:=rfl
theorem getD_some{l:zB}{i:Nat}{b:UInt8}(h:l[i]?=some b):l.getD i 0=b:=by rw[List.getD_eq_getElem?_getD,h];rfl
theorem z9O{l:zB}(h:0<l.length):z0r l=zl l.length (l.getD 0 0).toNat (l.getD 1 0).toNat (l.getD 2 0).toNat (l.getD 3 0).toNat:=by
 unfold z0r;rw[if_neg (by rintro rfl;simp at h)]
theorem at_{l:zB}{i:Nat}(h:i<l.length):∃b,l[i]?=some b:=⟨_,gE h⟩
theorem z0N(n:Nat)(h:n<256):IntKind.i64.wrap (n:Int)=(n:Int):=z1c (by omega) (by omega)
theorem z35{P:Program}{g:Sh.Glob}{a:SCode}{Q:SExit→ES→Prop}{k:Nat}{s:ES}:z2G P g a Q (k+1) s=swp P g a (z0G (z2G P g a Q k) Q) s:=rfl
theorem sg{a b:Int}(h:a=b):some (TV.pv (PV.v (Value.int IntKind.i64 a)))=some (TV.pv (PV.v (Value.int IntKind.i64 b))):=by rw[h]
theorem zbf(g:Sh.Glob)(l:zB)(b0:UInt8)(hl:0<l.length)(e0:l[0]?=some b0)(hc:b0.toNat<128):zC g 55 [S (str l)] [] (I (zl l.length b0.toNat (l.getD 1 0).toNat (l.getD 2 0).toNat (l.getD 3 0).toNat:Nat)) []:=by
 have hb:=zG b0;have c0:=z0N b0.toNat hb;have hl0:¬(l.length:Int)=0:=by omega
 have t0:(b0.toNat:Int)<128:=by omega
 have t1:¬194≤(b0.toNat:Int):=by omega
 have t2:(b0.toNat:Int)≤223:=by omega
 have t3:¬224≤(b0.toNat:Int):=by omega
 have t4:(b0.toNat:Int)≤239:=by omega
 have t5:¬240≤(b0.toNat:Int):=by omega
 have t6:(b0.toNat:Int)≤244:=by omega
 have t7:¬(b0.toNat:Int)=224:=by omega
 have t8:¬(b0.toNat:Int)=237:=by omega
 have t9:¬(b0.toNat:Int)=240:=by omega
 have t10:¬(b0.toNat:Int)=244:=by omega
 refine za tf_26 ?_;simp only[vcA,seval,I,S,e0,c0,hl0,t0,t1,t2,t3,t4,t5,t6,t7,t8,t9,t10];exact sg (by unfold zl;(repeat' split)<;>omega)
theorem zbg(g:Sh.Glob)(l:zB)(b0:UInt8)(hl:0<l.length)(e0:l[0]?=some b0)(hc:128≤b0.toNat∧b0.toNat≤193):zC g 55 [S (str l)] [] (I (zl l.length b0.toNat (l.getD 1 0).toNat (l.getD 2 0).toNat (l.getD 3 0).toNat:Nat)) []:=by
 have hb:=zG b0;have c0:=z0N b0.toNat hb;have hl0:¬(l.length:Int)=0:=by omega
 have t0:¬(b0.toNat:Int)<128:=by omega
 have t1:¬194≤(b0.toNat:Int):=by omega
 have t2:(b0.toNat:Int)≤223:=by omega
 have t3:¬224≤(b0.toNat:Int):=by omega
 have t4:(b0.toNat:Int)≤239:=by omega
 have t5:¬240≤(b0.toNat:Int):=by omega
 have t6:(b0.toNat:Int)≤244:=by omega
 have t7:¬(b0.toNat:Int)=224:=by omega
 have t8:¬(b0.toNat:Int)=237:=by omega
 have t9:¬(b0.toNat:Int)=240:=by omega
 have t10:¬(b0.toNat:Int)=244:=by omega
 refine za tf_26 ?_;simp only[vcA,seval,I,S,e0,c0,hl0,t0,t1,t2,t3,t4,t5,t6,t7,t8,t9,t10];exact sg (by unfold zl;(repeat' split)<;>omega)
theorem zbh(g:Sh.Glob)(l:zB)(b0:UInt8)(hl:0<l.length)(e0:l[0]?=some b0)(hc:194≤b0.toNat∧b0.toNat≤223):zC g 55 [S (str l)] [] (I (zl l.length b0.toNat (l.getD 1 0).toNat (l.getD 2 0).toNat (l.getD 3 0).toNat:Nat)) []:=by
 have hb:=zG b0;have c0:=z0N b0.toNat hb;have hl0:¬(l.length:Int)=0:=by omega
 have t0:¬(b0.toNat:Int)<128:=by omega
 have t1:194≤(b0.toNat:Int):=by omega
 have t2:(b0.toNat:Int)≤223:=by omega
 have t3:¬224≤(b0.toNat:Int):=by omega
 have t4:(b0.toNat:Int)≤239:=by omega
 have t5:¬240≤(b0.toNat:Int):=by omega
 have t6:(b0.toNat:Int)≤244:=by omega
 have t7:¬(b0.toNat:Int)=224:=by omega
 have t8:¬(b0.toNat:Int)=237:=by omega
 have t9:¬(b0.toNat:Int)=240:=by omega
 have t10:¬(b0.toNat:Int)=244:=by omega
 refine za tf_26 ?_;by_cases hn:(l.length:Int)<2
 ·simp only[vcA,seval,I,S,e0,c0,hl0,hn,t0,t1,t2,t3,t4,t5,t6,t7,t8,t9,t10];exact sg (by unfold zl;(repeat' split)<;>omega)
 obtain⟨b1,e1⟩:=at_ (l:=l) (i:=1) (by omega);have hb1:=zG b1;have g1:=getD_some e1;have c1:=z0N b1.toNat hb1;rw[g1];simp only[vcA,seval,I,S,e0,c0,e1,c1,hl0,hn,t0,t1,t2,t3,t4,t5,t6,t7,t8,t9,t10];refine⟨fun h1=>sg (by unfold zl;(repeat' split)<;>omega),fun h1=>⟨fun h2=>sg (by unfold zl;(repeat' split)<;>omega),fun h2=> ?_⟩⟩;refine z0U 1 ?_;simp only[vcA,seval,I,S,z35,e1,wr3,wr4,wr5];exact sg (by unfold zl;(repeat' split)<;>omega)
theorem zbi(g:Sh.Glob)(l:zB)(b0:UInt8)(hl:0<l.length)(e0:l[0]?=some b0)(hc:b0.toNat=224):zC g 55 [S (str l)] [] (I (zl l.length b0.toNat (l.getD 1 0).toNat (l.getD 2 0).toNat (l.getD 3 0).toNat:Nat)) []:=by
 have hb:=zG b0;have c0:=z0N b0.toNat hb;have hl0:¬(l.length:Int)=0:=by omega
 refine za tf_26 ?_;have q0:(b0.toNat:Int)=224:=by omega
 have q1:IntKind.i64.wrap 224=224:=rfl;by_cases hn:(l.length:Int)<3
 ·simp only[vcA,seval,I,S,e0,c0,hl0,hn,q0,q1];exact sg (by unfold zl;(repeat' split)<;>omega)
 obtain⟨b1,e1⟩:=at_ (l:=l) (i:=1) (by omega);have hb1:=zG b1;have g1:=getD_some e1;obtain⟨b2,e2⟩:=at_ (l:=l) (i:=2) (by omega);have hb2:=zG b2;have g2:=getD_some e2;have c1:=z0N b1.toNat hb1;rw[g1,g2];simp only[vcA,seval,I,S,e0,c0,e1,c1,hl0,hn,q0,q1];refine⟨fun h1=>sg (by unfold zl;(repeat' split)<;>omega),fun h1=>⟨fun h2=>sg (by unfold zl;(repeat' split)<;>omega),fun h2=> ?_⟩⟩;refine z0U 2 ?_;simp only[vcA,seval,I,S,z35,e1,e2,wr3,wr4,wr5]
 repeat' (first|(apply And.intro)|(intro _))
 all_goals exact sg (by unfold zl;(repeat' split)<;>omega)
theorem zbj(g:Sh.Glob)(l:zB)(b0:UInt8)(hl:0<l.length)(e0:l[0]?=some b0)(hc:225≤b0.toNat∧b0.toNat≤239∧b0.toNat≠237):zC g 55 [S (str l)] [] (I (zl l.length b0.toNat (l.getD 1 0).toNat (l.getD 2 0).toNat (l.getD 3 0).toNat:Nat)) []:=by
 have hb:=zG b0;have c0:=z0N b0.toNat hb;have hl0:¬(l.length:Int)=0:=by omega
 have t0:¬(b0.toNat:Int)<128:=by omega
 have t1:194≤(b0.toNat:Int):=by omega
 have t2:¬(b0.toNat:Int)≤223:=by omega
 have t3:224≤(b0.toNat:Int):=by omega
 have t4:(b0.toNat:Int)≤239:=by omega
 have t5:¬240≤(b0.toNat:Int):=by omega
 have t6:(b0.toNat:Int)≤244:=by omega
 have t7:¬(b0.toNat:Int)=224:=by omega
 have t8:¬(b0.toNat:Int)=237:=by omega
 have t9:¬(b0.toNat:Int)=240:=by omega
 have t10:¬(b0.toNat:Int)=244:=by omega
 refine za tf_26 ?_;by_cases hn:(l.length:Int)<3
 ·simp only[vcA,seval,I,S,e0,c0,hl0,hn,t0,t1,t2,t3,t4,t5,t6,t7,t8,t9,t10];exact sg (by unfold zl;(repeat' split)<;>omega)
 obtain⟨b1,e1⟩:=at_ (l:=l) (i:=1) (by omega);have hb1:=zG b1;have g1:=getD_some e1;obtain⟨b2,e2⟩:=at_ (l:=l) (i:=2) (by omega);have hb2:=zG b2;have g2:=getD_some e2;have c1:=z0N b1.toNat hb1;rw[g1,g2];simp only[vcA,seval,I,S,e0,c0,e1,c1,hl0,hn,t0,t1,t2,t3,t4,t5,t6,t7,t8,t9,t10];refine⟨fun h1=>sg (by unfold zl;(repeat' split)<;>omega),fun h1=>⟨fun h2=>sg (by unfold zl;(repeat' split)<;>omega),fun h2=> ?_⟩⟩;refine z0U 2 ?_;simp only[vcA,seval,I,S,z35,e1,e2,wr3,wr4,wr5]
 repeat' (first|(apply And.intro)|(intro _))
 all_goals exact sg (by unfold zl;(repeat' split)<;>omega)
theorem zbk(g:Sh.Glob)(l:zB)(b0:UInt8)(hl:0<l.length)(e0:l[0]?=some b0)(hc:b0.toNat=237):zC g 55 [S (str l)] [] (I (zl l.length b0.toNat (l.getD 1 0).toNat (l.getD 2 0).toNat (l.getD 3 0).toNat:Nat)) []:=by
 have hb:=zG b0;have c0:=z0N b0.toNat hb;have hl0:¬(l.length:Int)=0:=by omega
 refine za tf_26 ?_;have q0:(b0.toNat:Int)=237:=by omega
 have q1:IntKind.i64.wrap 237=237:=rfl;by_cases hn:(l.length:Int)<3
 ·simp only[vcA,seval,I,S,e0,c0,hl0,hn,q0,q1];exact sg (by unfold zl;(repeat' split)<;>omega)
 obtain⟨b1,e1⟩:=at_ (l:=l) (i:=1) (by omega);have hb1:=zG b1;have g1:=getD_some e1;obtain⟨b2,e2⟩:=at_ (l:=l) (i:=2) (by omega);have hb2:=zG b2;have g2:=getD_some e2;have c1:=z0N b1.toNat hb1;rw[g1,g2];simp only[vcA,seval,I,S,e0,c0,e1,c1,hl0,hn,q0,q1];refine⟨fun h1=>sg (by unfold zl;(repeat' split)<;>omega),fun h1=>⟨fun h2=>sg (by unfold zl;(repeat' split)<;>omega),fun h2=> ?_⟩⟩;refine z0U 2 ?_;simp only[vcA,seval,I,S,z35,e1,e2,wr3,wr4,wr5]
 repeat' (first|(apply And.intro)|(intro _))
 all_goals exact sg (by unfold zl;(repeat' split)<;>omega)
theorem zbl(g:Sh.Glob)(l:zB)(b0:UInt8)(hl:0<l.length)(e0:l[0]?=some b0)(hc:b0.toNat=240):zC g 55 [S (str l)] [] (I (zl l.length b0.toNat (l.getD 1 0).toNat (l.getD 2 0).toNat (l.getD 3 0).toNat:Nat)) []:=by
 have hb:=zG b0;have c0:=z0N b0.toNat hb;have hl0:¬(l.length:Int)=0:=by omega
 refine za tf_26 ?_;have q0:(b0.toNat:Int)=240:=by omega
 have q1:IntKind.i64.wrap 240=240:=rfl;by_cases hn:(l.length:Int)<4
 ·simp only[vcA,seval,I,S,e0,c0,hl0,hn,q0,q1];exact sg (by unfold zl;(repeat' split)<;>omega)
 obtain⟨b1,e1⟩:=at_ (l:=l) (i:=1) (by omega);have hb1:=zG b1;have g1:=getD_some e1;obtain⟨b2,e2⟩:=at_ (l:=l) (i:=2) (by omega);have hb2:=zG b2;have g2:=getD_some e2;obtain⟨b3,e3⟩:=at_ (l:=l) (i:=3) (by omega);have hb3:=zG b3;have g3:=getD_some e3;have c1:=z0N b1.toNat hb1;rw[g1,g2,g3];simp only[vcA,seval,I,S,e0,c0,e1,c1,hl0,hn,q0,q1];refine⟨fun h1=>sg (by unfold zl;(repeat' split)<;>omega),fun h1=>⟨fun h2=>sg (by unfold zl;(repeat' split)<;>omega),fun h2=> ?_⟩⟩;refine z0U 3 ?_;simp only[vcA,seval,I,S,z35,e1,e2,e3,wr3,wr4,wr5]
 repeat' (first|(apply And.intro)|(intro _))
 all_goals exact sg (by unfold zl;(repeat' split)<;>omega)
theorem zbm(g:Sh.Glob)(l:zB)(b0:UInt8)(hl:0<l.length)(e0:l[0]?=some b0)(hc:241≤b0.toNat∧b0.toNat≤243):zC g 55 [S (str l)] [] (I (zl l.length b0.toNat (l.getD 1 0).toNat (l.getD 2 0).toNat (l.getD 3 0).toNat:Nat)) []:=by
 have hb:=zG b0;have c0:=z0N b0.toNat hb;have hl0:¬(l.length:Int)=0:=by omega
 have t0:¬(b0.toNat:Int)<128:=by omega
 have t1:194≤(b0.toNat:Int):=by omega
 have t2:¬(b0.toNat:Int)≤223:=by omega
 have t3:224≤(b0.toNat:Int):=by omega
 have t4:¬(b0.toNat:Int)≤239:=by omega
 have t5:240≤(b0.toNat:Int):=by omega
 have t6:(b0.toNat:Int)≤244:=by omega
 have t7:¬(b0.toNat:Int)=224:=by omega
 have t8:¬(b0.toNat:Int)=237:=by omega
 have t9:¬(b0.toNat:Int)=240:=by omega
 have t10:¬(b0.toNat:Int)=244:=by omega
 refine za tf_26 ?_;by_cases hn:(l.length:Int)<4
 ·simp only[vcA,seval,I,S,e0,c0,hl0,hn,t0,t1,t2,t3,t4,t5,t6,t7,t8,t9,t10];exact sg (by unfold zl;(repeat' split)<;>omega)
 obtain⟨b1,e1⟩:=at_ (l:=l) (i:=1) (by omega);have hb1:=zG b1;have g1:=getD_some e1;obtain⟨b2,e2⟩:=at_ (l:=l) (i:=2) (by omega);have hb2:=zG b2;have g2:=getD_some e2;obtain⟨b3,e3⟩:=at_ (l:=l) (i:=3) (by omega);have hb3:=zG b3;have g3:=getD_some e3;have c1:=z0N b1.toNat hb1;rw[g1,g2,g3];simp only[vcA,seval,I,S,e0,c0,e1,c1,hl0,hn,t0,t1,t2,t3,t4,t5,t6,t7,t8,t9,t10];refine⟨fun h1=>sg (by unfold zl;(repeat' split)<;>omega),fun h1=>⟨fun h2=>sg (by unfold zl;(repeat' split)<;>omega),fun h2=> ?_⟩⟩;refine z0U 3 ?_;simp only[vcA,seval,I,S,z35,e1,e2,e3,wr3,wr4,wr5]
 repeat' (first|(apply And.intro)|(intro _))
 all_goals exact sg (by unfold zl;(repeat' split)<;>omega)
theorem zbn(g:Sh.Glob)(l:zB)(b0:UInt8)(hl:0<l.length)(e0:l[0]?=some b0)(hc:b0.toNat=244):zC g 55 [S (str l)] [] (I (zl l.length b0.toNat (l.getD 1 0).toNat (l.getD 2 0).toNat (l.getD 3 0).toNat:Nat)) []:=by
 have hb:=zG b0;have c0:=z0N b0.toNat hb;have hl0:¬(l.length:Int)=0:=by omega
 refine za tf_26 ?_;have q0:(b0.toNat:Int)=244:=by omega
 have q1:IntKind.i64.wrap 244=244:=rfl;by_cases hn:(l.length:Int)<4
 ·simp only[vcA,seval,I,S,e0,c0,hl0,hn,q0,q1];exact sg (by unfold zl;(repeat' split)<;>omega)
 obtain⟨b1,e1⟩:=at_ (l:=l) (i:=1) (by omega);have hb1:=zG b1;have g1:=getD_some e1;obtain⟨b2,e2⟩:=at_ (l:=l) (i:=2) (by omega);have hb2:=zG b2;have g2:=getD_some e2;obtain⟨b3,e3⟩:=at_ (l:=l) (i:=3) (by omega);have hb3:=zG b3;have g3:=getD_some e3;have c1:=z0N b1.toNat hb1;rw[g1,g2,g3];simp only[vcA,seval,I,S,e0,c0,e1,c1,hl0,hn,q0,q1];refine⟨fun h1=>sg (by unfold zl;(repeat' split)<;>omega),fun h1=>⟨fun h2=>sg (by unfold zl;(repeat' split)<;>omega),fun h2=> ?_⟩⟩;refine z0U 3 ?_;simp only[vcA,seval,I,S,z35,e1,e2,e3,wr3,wr4,wr5]
 repeat' (first|(apply And.intro)|(intro _))
 all_goals exact sg (by unfold zl;(repeat' split)<;>omega)
theorem zbo(g:Sh.Glob)(l:zB)(b0:UInt8)(hl:0<l.length)(e0:l[0]?=some b0)(hc:245≤b0.toNat):zC g 55 [S (str l)] [] (I (zl l.length b0.toNat (l.getD 1 0).toNat (l.getD 2 0).toNat (l.getD 3 0).toNat:Nat)) []:=by
 have hb:=zG b0;have c0:=z0N b0.toNat hb;have hl0:¬(l.length:Int)=0:=by omega
 have t0:¬(b0.toNat:Int)<128:=by omega
 have t1:194≤(b0.toNat:Int):=by omega
 have t2:¬(b0.toNat:Int)≤223:=by omega
 have t3:224≤(b0.toNat:Int):=by omega
 have t4:¬(b0.toNat:Int)≤239:=by omega
 have t5:240≤(b0.toNat:Int):=by omega
 have t6:¬(b0.toNat:Int)≤244:=by omega
 have t7:¬(b0.toNat:Int)=224:=by omega
 have t8:¬(b0.toNat:Int)=237:=by omega
 have t9:¬(b0.toNat:Int)=240:=by omega
 have t10:¬(b0.toNat:Int)=244:=by omega
 refine za tf_26 ?_;simp only[vcA,seval,I,S,e0,c0,hl0,t0,t1,t2,t3,t4,t5,t6,t7,t8,t9,t10];exact sg (by unfold zl;(repeat' split)<;>omega)
theorem zaz(g:Sh.Glob)(l:zB):zC g 55 [S (str l)] [] (I (z0r l)) []:=by
 by_cases h0:l.length=0
 ·have:l=[]:=List.eq_nil_of_length_eq_zero h0;subst this;refine za tf_26 ?_;simp only[vcA,seval,I,S,Int.natCast_zero,List.length_nil];rfl
 have hl:0<l.length:=by omega
 obtain⟨b0,e0⟩:=at_ hl;rw[z9O hl,getD_some e0];have hb:=zG b0;by_cases c0:b0.toNat<128
 ·exact zbf g l b0 hl e0 c0
 by_cases c1:128≤b0.toNat∧b0.toNat≤193
 ·exact zbg g l b0 hl e0 c1
 by_cases c2:194≤b0.toNat∧b0.toNat≤223
 ·exact zbh g l b0 hl e0 c2
 by_cases c3:b0.toNat=224
 ·exact zbi g l b0 hl e0 c3
 by_cases c4:225≤b0.toNat∧b0.toNat≤239∧b0.toNat≠237
 ·exact zbj g l b0 hl e0 c4
 by_cases c5:b0.toNat=237
 ·exact zbk g l b0 hl e0 c5
 by_cases c6:b0.toNat=240
 ·exact zbl g l b0 hl e0 c6
 by_cases c7:241≤b0.toNat∧b0.toNat≤243
 ·exact zbm g l b0 hl e0 c7
 by_cases c8:b0.toNat=244
 ·exact zbn g l b0 hl e0 c8
 exact zbo g l b0 hl e0 (by omega)
def z2A:Nat→zB→Bool
 |0,_=>true
 |n+1,l=>match l with
  |[]=>true
  |b::r=> !(z0r (b::r)==0)&& !decide (b.toNat<32)&& !(b.toNat==127)&&z2A n ((b::r).drop (z0r (b::r)))
def z0H(l:zB):Bool:=z2A l.length l
theorem z6f:∀(n:Nat) (l:zB),l.length≤n→z2A n l=z0H l:=by
 intro n
 induction n using Nat.strongRecOn with
 |_ n ih=>
  intro l hl;unfold z0H;cases l with
  |nil=>cases n<;>rfl
  |cons b r=>
   obtain⟨m,rfl⟩:∃m,n=m+1:=⟨n-1,by simp at hl;omega⟩
   simp only[z2A,List.length_cons];by_cases h0:z0r (b::r)=0
   ·simp[h0]
   ·have h1:((b::r).drop (z0r (b::r))).length≤r.length:=by simp;omega
    simp at hl;rw[ih m (by omega) _ (by omega)];by_cases he:r.length=m
    ·subst he;rw[ih r.length (by omega) _ h1]
    ·rw[ih r.length (by omega) _ h1]
theorem z47(b:UInt8)(r:zB):z0H (b::r)=(!(z0r (b::r)==0)&& !decide (b.toNat<32)&& !(b.toNat==127)&&z0H ((b::r).drop (z0r (b::r)))):=by
 conv=>lhs;unfold z0H
 simp only[z2A,List.length_cons];by_cases h0:z0r (b::r)=0
 ·simp[h0]
 ·rw[z6f r.length _ (by simp;omega)]
theorem z9P(l:zB):z0r l≤l.length∧z0r l≤4:=by
 unfold z0r;cases l with
 |nil=>simp
 |cons b r=>
  rw[if_neg (by simp)];unfold zl;simp only[List.length_cons]
  repeat' split
  all_goals omega
theorem z9R(l:zB)(a:Nat):(str l).extract a l.length=str (l.drop a):=by
 rw[str_extract,List.take_of_length_le (by simp)]
theorem z8B(g:Sh.Glob)(l:zB)(hl:l.length≤9223372036854775807):zC g 41 [S (str l)] [] (.pv (.v (.bool (z0H l)))) []:=by
 refine za tf_23 ?_;obtain⟨r,hr⟩:∃r,z0H l=r:=⟨_,rfl⟩
 rw[hr];simp only[vW,seval];refine zE (σ:={ i:Nat // i≤l.length∧r=z0H (l.drop i) }) (fun i=>⟨[(0,S (str l)),(3,I (i.1:Int))],[],[],[]⟩) (fun i=>l.length-i.1) ⟨0,Nat.zero_le _,hr.symm⟩ ?_ ?_
 ·exact lwA
 rintro⟨i,hi,hT⟩;by_cases hlt:i<l.length
 ·have d1:(i:Int)<(l.length:Int):=by omega
  have hd:=z9R l i;obtain⟨b,eb⟩:=at_ hlt;have hcons:l.drop i=b::l.drop (i+1):=by
   rw[List.drop_eq_getElem_cons hlt];congr 1;rw[gE hlt]at eb;exact Option.some.inj eb
  have hs:=z9P (l.drop i);have hb:=z47 b (l.drop (i+1));rw[←hcons,←hT]at hb;simp only[List.length_drop]at hs;have HS:=zaz g (l.drop i);simp only[vW,seval,d1,hd];refine⟨by omega,?_⟩;refine z6 HS ?_;generalize z0r (l.drop i)=n at hs hb ⊢;by_cases h0:n=0
  ·have d2:(n:Int)=0:=by omega
   have hf:r=false:=by rw[hb];simp[h0]
   subst hf;simp only[vW,seval,d2]
  have d2:¬(n:Int)=0:=by omega
  by_cases h1:b.toNat<32
  ·have d3:(b.toNat:Int)<32:=by omega
   have hf:r=false:=by rw[hb];simp[h1]
   subst hf;simp only[vW,seval,d2,eb,d3]
  have d3:¬(b.toNat:Int)<32:=by omega
  by_cases h2:b.toNat=127
  ·have d4:(b.toNat:Int)=127:=by omega
   have hf:r=false:=by rw[hb];simp[h2]
   subst hf;simp only[vW,seval,d2,eb,d3,d4]
  have d4:¬(b.toNat:Int)=127:=by omega
  have w1:IntKind.i64.wrap ((i:Int)+(n:Int))=((i+n:Nat):Int):=wG;have hT2:r=z0H (l.drop (i+n)):=by rw[hb,List.drop_drop];simp[h0,h1,h2]
  simp only[vW,seval,d2,eb,d3,d4,w1];refine zc ⟨i+n,by omega,hT2⟩ (by show l.length-(i+n)<l.length-i;omega) ?_;exact lwA
 ·have d1:¬(i:Int)<(l.length:Int):=by omega
  have hf:r=true:=by rw[hT,List.drop_eq_nil_of_le (by omega)];rfl
  subst hf;simp only[vW,seval,d1]
end
theorem z3F(l:zB)(i:Nat):(l.getD i 0).toNat<256:=(l.getD i 0).toNat_lt
theorem z6x(b:UInt8)(t:zB):z0r (b::t)=if(Lib.decodeL (b::t)).1=65533∧(Lib.decodeL (b::t)).2=1 then 0 else(Lib.decodeL (b::t)).2:=by
 rw[Lib.decodeL_N,z0r,if_neg (by simp)];exact z6y _ _ _ _ _ (z3F _ _) (z3F _ _) (z3F _ _) (z3F _ _)
theorem zax(n b0 b1 b2 b3:Nat):(b0<128→(Lib.decodeN n b0 b1 b2 b3).1=b0)∧(128≤b0→128≤(Lib.decodeN n b0 b1 b2 b3).1):=by
 unfold Lib.decodeN;refine⟨fun h=>by rw[if_pos h],fun h=> ?_⟩;rw[if_neg (by omega)]
 (repeat' split)<;>simp only<;>omega
theorem z6R(b:UInt8)(t:zB):z25 (Lib.decodeL (b::t)).1=(!decide (b.toNat<32)&& !(b.toNat==127)):=by
 rw[Lib.decodeL_N];have h:=zax (b::t).length ((b::t).getD 0 0).toNat ((b::t).getD 1 0).toNat ((b::t).getD 2 0).toNat ((b::t).getD 3 0).toNat;have e:(b::t).getD 0 0=b:=rfl;rw[e]at h ⊢;generalize(Lib.decodeN _ _ _ _ _).1=r at h ⊢;unfold z25;rw[Bool.eq_iff_iff];rcases Nat.lt_or_ge b.toNat 128 with hb|hb
 ·rw[h.1 hb];simp
 ·have:=h.2 hb;simp;omega
theorem z8A:∀(n:Nat) (l:zB),l.length≤n→z0H l=(Lib.validD l&&z19 l):=by
 intro n
 induction n with
 |zero=>intro l hl;obtain rfl:=List.eq_nil_of_length_eq_zero (by omega:l.length=0);rfl
 |succ n ih=>
  intro l hl;cases l with
  |nil=>rfl
  |cons b t=>
   rw[z47,Lib.validD_step _ (by simp),z4a _ (by simp),z6R,z6x];have hw:=Lib.decodeL_width (b::t);split
   ·simp
   ·rw[ih _ (by simp at hl ⊢;omega)];have h0:((Lib.decodeL (b::t)).2==0)=false:=by simp;omega
    rw[h0];generalize Lib.validD _=p;generalize z19 _=q;cases p<;>cases q<;>simp
end Go.Proofs.YtcpaleaajdilgaaDoor
end

section
namespace Go.Sh.Cd2
open Go Go.Sh
abbrev gQ(a:GA):Prop:=gT Go.Proofs.Tryd.prog a
theorem gK{a:GA}(h:gQ a:=by unfold gQ gT;kernel_rfl):gQ a:=h
theorem tf_24:gQ ⟨22,138,[],[],[[0,2],[6],[9],[1,7008,10023],[8,25],[1,7,24,26044],[24,46],[7,45,47049],[1,3,50067],[45,69],[70],[1,7,68,71099],[7,68,101],[100,102114],[1,115],[2,115],[116119],[2,121122,137],[120,123128],[1,4,129],[2,129135],[5,136],[1,4,137],[1,4],[1,100]],[.tmp 2],false⟩:=gK
theorem tf_22:gQ ⟨23,41,[],[],[[1000001,4],[8009],[10011],[5006,12023],[2003,24],[4,24],[25028],[4,30031,40],[29,32039],[2003,7,40],[2003,7]],[.tmp 4],false⟩:=gK
theorem tf_25:gQ ⟨42,17,[],[],[[0,2],[3004],[1,5008],[1,5,9016]],[.tmp 2],false⟩:=gK
theorem tf_27:gQ ⟨43,22,[],[],[[0,4],[1002,5021]],[.tmp 4],false⟩:=gK
theorem tf_28:gQ ⟨56,9,[],[],[[2],[0,3008]],[.tmp 2],false⟩:=gK
noncomputable def funcs:Nat→Option SFunc
 |_=>none
end Go.Sh.Cd2
end

section
namespace Go.Proofs.YtcpaleaajdilgaaDoor
open Go Go.RowKit Go.Mor Go.Sh Go.Sh.Cd1 Go.Sh.Cd2
theorem z5N(s:zB):z0z s=(z0H s&&decide (s.length≤60)):=by
 unfold z0z;rw[z8A s.length s (Nat.le_refl _),Bool.and_comm]
theorem z6Y(n:Int):z1q n=(decide (1≤n)&&decide (n≤100000)||decide (-20≤n)&&decide (n≤ -1)):=by
 unfold z1q;rw[Bool.eq_iff_iff];simp
theorem z3o(g:Sh.Glob)(x:V)(hs:z0t x)(h5:x.k≠5):zC g 22 [tv x] [] (B (z1a x)) []:=by
 obtain⟨k,n,s,l⟩:=x;have HT:=z8B g s hs;have hln:decide ((l.length:Int)=0)=(l.length==0):=by rw[Bool.eq_iff_iff];simp
 have k5:¬k=5:=h5;have hl60:decide ((s.length:Int)≤60)=decide (s.length≤60):=by rw[Bool.eq_iff_iff];simp;omega
 have hb:bare (.mk k n s l)=(s==[]&&l.length==0):=rfl;have hn0:(n==0)=decide (n=0):=by rw[Bool.eq_iff_iff];simp
 rw[z5x,hb,z5N,z6Y,hn0];clear h5 hs hb;have key:∀(kk:Int),kk=3∨kk=4→zC g 22 [tv (.mk kk n s l)] [] (.pv (.v (.bool ((s==[]&&l.length==0)&&(decide (1≤n)&&decide (n≤100000)||decide (-20≤n)&&decide (n≤ -1)))))) []:=by
  intro kk hkk;refine za tf_24 ?_;rcases hkk with rfl|rfl
  all_goals
   by_cases hid:(1≤n∧n≤100000)∨(-20≤n∧n≤ -1)
   ·have e:(decide (1≤n)&&decide (n≤100000)||decide (-20≤n)&&decide (n≤ -1))=true:=by simpa using hid
    rw[e];rcases hid with⟨q1,q2⟩|⟨q3,q4⟩
    ·cases hs:s==[]<;>simp only[vW,seval,e0,q1,q2,hs,hln]
    ·have q1:¬1≤n:=by omega
     cases hs:s==[]<;>simp only[vW,seval,e0,q1,q3,q4,hs,hln]
   ·have e:(decide (1≤n)&&decide (n≤100000)||decide (-20≤n)&&decide (n≤ -1))=false:=by rw[←Bool.not_eq_true];simpa using hid
    rw[e];by_cases q1:1≤n
    ·have q2:¬n≤100000:=by omega
     have q3: -20≤n:=by omega
     have q4:¬n≤ -1:=by omega
     simp only[vW,seval,q1,q2,q3,q4]
    ·by_cases q3: -20≤n
     ·have q4:¬n≤ -1:=by omega
      simp only[vW,seval,q1,q3,q4]
     ·simp only[vW,seval,q1,q3]
 by_cases k34:k=3∨k=4
 ·rw[if_neg (by omega),if_neg (by omega),if_neg (by omega),if_pos k34];exact key k k34
 clear key;refine za tf_24 ?_;unfold B at*;by_cases k0:k=0
 ·subst k0;by_cases n0:n=0
  ·subst n0;cases hs:s==[]<;>simp only[vW,seval,e0,hs,hln]
  ·simp only[vW,seval,n0]
 rw[if_neg k0];by_cases k1:k=1
 ·subst k1;by_cases q1: -1000000000000000≤n
  ·by_cases q2:n≤1000000000000000
   ·cases hs:s==[]<;>simp only[vW,seval,e0,q1,q2,hs,hln]
   ·simp only[vW,seval,q1,q2]
  ·simp only[vW,seval,q1]
 rw[if_neg k1];by_cases k2:k=2
 ·subst k2;simp only[vW,seval];refine z6 HT ?_;by_cases n0:n=0
  ·subst n0;cases z0H s
   ·simp only[vW,seval]
   ·by_cases q:(s.length:Int)≤60
    ·have q':s.length≤60:=by omega
     simp only[vW,seval,q,q',hln]
    ·have q':¬s.length≤60:=by omega
     simp only[vW,seval,q,q']
  ·simp only[vW,seval,n0]
 rw[if_neg k2];rw[if_neg k34];have k3:¬k=3:=fun h=>k34 (.inl h);have k4:¬k=4:=fun h=>k34 (.inr h);simp only[vW,seval,k0,k1,k2,k3,k4,k5]
end Go.Proofs.YtcpaleaajdilgaaDoor
end

section
namespace Go.Sh.Cd7
open Go Go.Sh
abbrev gQ(a:GA):Prop:=gT Go.Proofs.Tryd.prog a
theorem gK{a:GA}(h:gQ a:=by unfold gQ gT;kernel_rfl):gQ a:=h
theorem tf_29:gQ ⟨10,49,[],[],[[0,4005],[7008],[1002,9],[4005,9014],[1002,15021],[4005,15],[22024],[4005,26027,47],[25,28046],[1002,6,47048],[1002,6]],[.tmp 4,.tmp 5],false⟩:=gK
theorem tf_34:gQ ⟨14,38,[],[],[[1000001,4],[6018],[2003,19],[4,19],[20023],[4,25026,37],[24,27036],[2003,5,37],[2003,5]],[.tmp 4],false⟩:=gK
theorem tf_32:gQ ⟨21,62,[],[],[[0,2],[6014],[1,15],[2,15],[16019],[4005,21022],[20,23027],[28046],[1,3004,47],[2,47],[48049],[2,51052,61],[50,53060],[1,3005,61],[1,3]],[.tmp 2],false⟩:=gK
theorem tf_31:gQ ⟨39,56,[],[],[[2],[6012],[0,13],[2,13],[14016],[2,18019,55],[17,20029],[30045],[4005,46054],[0,3,55],[0,3]],[.tmp 2],false⟩:=gK
theorem tf_33:gQ ⟨40,21,[],[],[[0,2],[1,3020]],[.tmp 2],false⟩:=gK
theorem tf_35:gQ ⟨54,9,[],[],[[2],[0,3008]],[.tmp 2],false⟩:=gK
noncomputable def funcs:Nat→Option SFunc
 |_=>none
end Go.Sh.Cd7
end

section
namespace Go.Proofs.YtcpaleaajdilgaaDoor
open Go Go.RowKit Go.Mor Go.Sh Go.Sh.Cd1
section
open Go.Sh.Cd7
theorem z4R(g:Sh.Glob)(l:zB)(hl:l.length<4611686018427387904):zC g 39 [S (str l)] [] (B (zm l)) []:=by
 refine za tf_31 ?_;unfold B;by_cases h1:1≤l.length
 ·have d1:¬(l.length:Int)<1:=by omega
  by_cases h20:l.length≤20
  ·have d2:¬(20:Int)<(l.length:Int):=by omega
   have hR:zm l=(z08 (l.headD 0)&&l.all zD):=by unfold zm;rw[decide_eq_true ⟨h1,h20⟩];simp
   rw[hR];obtain⟨r,hr⟩:∃r,(z08 (l.headD 0)&&l.all zD)=r:=⟨_,rfl⟩
   rw[hr];simp only[vW,seval,d1,d2];refine zE (σ:={ k:Nat // k≤l.length∧(0<k→z08 (l.headD 0)=true)∧(l.drop k).all zD=l.all zD })
    (fun k=>⟨[(0,S (str l)),(3,I (k.1:Int))],[],[],[]⟩) (fun k=>l.length-k.1) ⟨0,Nat.zero_le _,by omega,rfl⟩ ?_ ?_
   ·exact lwA
   rintro⟨k,hk,hh,hd⟩;by_cases hlt:k<l.length
   ·have d3:(k:Int)<(l.length:Int):=by omega
    obtain⟨b,eb⟩:∃b,l[k]?=some b:=⟨_,gE hlt⟩
    rw[z2b eb,List.all_cons]at hd;have hbn:=b.toNat_lt;have w4:=wS k;have h0:k=0→l.headD 0=b:=by
     rintro rfl;cases l with
     |nil=>simp at eb
     |cons x r=>simpa using eb
    have cls:(b.toNat<48)∨(48≤b.toNat∧b.toNat≤57)∨(57<b.toNat∧b.toNat<97∧b.toNat≠95)∨b.toNat=95∨(97≤b.toNat∧b.toNat≤122)∨122<b.toNat:=by omega
    rcases cls with q|q|q|q|q|q
    ·have t1:¬(97:Int)≤(b.toNat:Int):=by omega
     have t3:¬(48:Int)≤(b.toNat:Int):=by omega
     have t5:¬(b.toNat:Int)=95:=by omega
     have hn:zD b=false:=by unfold zD z08;simp;omega
     rw[hn,Bool.false_and]at hd;have hf:r=false:=by rw[←hr,←hd,Bool.and_false]
     subst hf;by_cases k0:(k:Int)=0
     ·have k00:k=0:=by omega
      have d30:(0:Int)<(l.length:Int):=by omega
      have e00:l[0]?=some b:=by rw[←k00];exact eb
      simp only[vW,seval,d3,eb,t1,t3,t5,k0,d30,e00]
     ·simp only[vW,seval,d3,eb,t1,t3,t5,k0]
    ·have t1:¬(97:Int)≤(b.toNat:Int):=by omega
     have t3:(48:Int)≤(b.toNat:Int):=by omega
     have t4:(b.toNat:Int)≤57:=by omega
     have hn:zD b=true:=by unfold zD;simp;omega
     have hs:z08 b=false:=by unfold z08;simp;omega
     rw[hn,Bool.true_and]at hd;by_cases k0:(k:Int)=0
     ·have k00:k=0:=by omega
      have d30:(0:Int)<(l.length:Int):=by omega
      have e00:l[0]?=some b:=by rw[←k00];exact eb
      have hf:r=false:=by rw[←hr,h0 (by omega),hs];rfl
      subst hf;simp only[vW,seval,d3,eb,t1,t3,t4,k0,d30,e00]
     ·simp only[vW,seval,d3,eb,t1,t3,t4,k0,w4];refine zc ⟨k+1,hlt,fun _=>hh (by omega),hd⟩ (by show l.length-(k+1)<l.length-k;omega) ?_;exact lwA
    ·have t1:¬(97:Int)≤(b.toNat:Int):=by omega
     have t3:(48:Int)≤(b.toNat:Int):=by omega
     have t4:¬(b.toNat:Int)≤57:=by omega
     have t5:¬(b.toNat:Int)=95:=by omega
     have hn:zD b=false:=by unfold zD z08;simp;omega
     rw[hn,Bool.false_and]at hd;have hf:r=false:=by rw[←hr,←hd,Bool.and_false]
     subst hf;by_cases k0:(k:Int)=0
     ·have k00:k=0:=by omega
      have d30:(0:Int)<(l.length:Int):=by omega
      have e00:l[0]?=some b:=by rw[←k00];exact eb
      simp only[vW,seval,d3,eb,t1,t3,t4,t5,k0,d30,e00]
     ·simp only[vW,seval,d3,eb,t1,t3,t4,t5,k0]
    ·have t1:¬(97:Int)≤(b.toNat:Int):=by omega
     have t3:(48:Int)≤(b.toNat:Int):=by omega
     have t4:¬(b.toNat:Int)≤57:=by omega
     have t5:(b.toNat:Int)=95:=by omega
     have hn:zD b=true:=by unfold zD;simp[q]
     have hs:z08 b=false:=by unfold z08;simp;omega
     rw[hn,Bool.true_and]at hd;by_cases k0:(k:Int)=0
     ·have k00:k=0:=by omega
      have d30:(0:Int)<(l.length:Int):=by omega
      have e00:l[0]?=some b:=by rw[←k00];exact eb
      have hf:r=false:=by rw[←hr,h0 (by omega),hs];rfl
      subst hf;simp only[vW,seval,d3,eb,t1,t3,t4,t5,k0,d30,e00]
     ·simp only[vW,seval,d3,eb,t1,t3,t4,t5,k0,w4];refine zc ⟨k+1,hlt,fun _=>hh (by omega),hd⟩ (by show l.length-(k+1)<l.length-k;omega) ?_;exact lwA
    ·have t1:(97:Int)≤(b.toNat:Int):=by omega
     have t2:(b.toNat:Int)≤122:=by omega
     have t3:(48:Int)≤(b.toNat:Int):=by omega
     have t4:¬(b.toNat:Int)≤57:=by omega
     have t5:¬(b.toNat:Int)=95:=by omega
     have hs:z08 b=true:=by unfold z08;simp;omega
     have hn:zD b=true:=by unfold zD;rw[hs];rfl
     rw[hn,Bool.true_and]at hd;simp only[vW,seval,d3,eb,t1,t2,t3,t4,t5,w4];refine zc ⟨k+1,hlt,fun _=> ?_,hd⟩ (by show l.length-(k+1)<l.length-k;omega) ?_
     ·by_cases k0:k=0
      ·rw[h0 k0];exact hs
      ·exact hh (by omega)
     exact lwA
    ·have t1:(97:Int)≤(b.toNat:Int):=by omega
     have t2:¬(b.toNat:Int)≤122:=by omega
     have t3:(48:Int)≤(b.toNat:Int):=by omega
     have t4:¬(b.toNat:Int)≤57:=by omega
     have t5:¬(b.toNat:Int)=95:=by omega
     have hn:zD b=false:=by unfold zD z08;simp;omega
     rw[hn,Bool.false_and]at hd;have hf:r=false:=by rw[←hr,←hd,Bool.and_false]
     subst hf;by_cases k0:(k:Int)=0
     ·have k00:k=0:=by omega
      have d30:(0:Int)<(l.length:Int):=by omega
      have e00:l[0]?=some b:=by rw[←k00];exact eb
      simp only[vW,seval,d3,eb,t1,t2,t3,t4,t5,k0,d30,e00]
     ·simp only[vW,seval,d3,eb,t1,t2,t3,t4,t5,k0]
   ·have d3:¬(k:Int)<(l.length:Int):=by omega
    rw[List.drop_eq_nil_of_le (by omega)]at hd;have hf:r=true:=by rw[←hr,←hd,hh (by omega)];rfl
    subst hf;simp only[vW,seval,d3]
  ·have d2:(20:Int)<(l.length:Int):=by omega
   have hR:zm l=false:=by unfold zm;rw[decide_eq_false (by omega)];rfl
   rw[hR];simp only[vW,seval,d1,d2]
 ·have d1:(l.length:Int)<1:=by omega
  have hR:zm l=false:=by unfold zm;rw[decide_eq_false (by omega)];rfl
  rw[hR];simp only[vW,seval,d1]
theorem z3p(g:Sh.Glob)(k:Int):zC g 54 [I k] [] (B (decide (1≤k)&&decide (k≤4))) []:=by
 refine za tf_35 ?_;unfold B;by_cases h1:1≤k
 ·simp only[vW,seval,h1]
 ·simp only[vW,seval,h1]
theorem z9J(g:Sh.Glob)(t:Ty):zC g 40 [tyT t] [] (B (zf t)) []:=by
 obtain⟨k,o⟩:=t;have H1:=z3p g k;have H2:=z3p g o;refine za tf_33 ?_;have hR:zf ⟨k,o⟩=((decide (1≤k)&&decide (k≤4))&&decide (o=0)||decide (k=5)&&(decide (1≤o)&&decide (o≤4))):=by
  unfold zf;rw[Bool.eq_iff_iff];by_cases h:k=5
  ·subst h;simp
  ·rw[if_neg h];simp[h];omega
 rw[hR];have h15:(decide (1≤k)&&decide (k≤4))=true→decide (k=5)=false:=fun h=>by simp at h ⊢;omega
 generalize(decide (1≤k)&&decide (k≤4))=x at*;generalize(decide (1≤o)&&decide (o≤4))=y at*;unfold B tyT at*;simp only[vW,seval];refine z6 H1 ?_;cases x
 ·by_cases h5:k=5
  ·simp only[vW,seval,h5];exact z0w H2
  ·simp only[vW,seval,h5]
 ·by_cases h0:o=0
  ·simp only[vW,seval,h0];rw[Bool.true_or]
  ·have h5:¬k=5:=by simpa using h15 rfl
   simp only[vW,seval,h0,h5]
theorem z2v{α:Type}(p:α→Bool)(l:List α)(k:Nat)(h:zU p l=k)(i:Nat)(y:α)(hi:i<k)(hy:l[i]?=some y):p y=false:=by
 cases hp:p y with
 |false=>rfl
 |true=>
  exfalso;obtain⟨q,hq⟩:∃q,l.findIdx? p=some q:=by
   cases hf:l.findIdx? p with
   |some q=>exact⟨q,rfl⟩
   |none=>
    rw[List.findIdx?_eq_none_iff]at hf;have:=hf y (gM hy);rw[hp]at this;cases this
  have hqk:(q:Int)=k:=by rw[←h];simp[zU,hq]
  rw[List.findIdx?_eq_some_iff_getElem]at hq;obtain⟨h1,_,h3⟩:=hq;obtain⟨hi2,rfl⟩:=gJ hy;exact h3 i (by omega) hp
theorem z6s(g:Sh.Glob)(c:Cls)(hc:ClsOk c):zC g 21 [clT c] [] (B (z07 c)) []:=by
 have HN:=z4R g c.n hc.n;have hlen:=hc.len;obtain⟨R,hR⟩:∃R,z07 c=R:=⟨_,rfl⟩
 rw[hR];unfold z07 at hR;refine za tf_32 ?_;unfold B at*;simp only[vW,seval,clV];refine z6 HN ?_;cases h1:zm c.n
 ·rw[h1]at hR;subst hR;simp only[vW,seval]
 rw[h1,Bool.true_and]at hR;by_cases h8:c.fs.length≤8
 ·rw[decide_eq_true h8,Bool.true_and]at hR;have d8:¬(8:Int)<(c.fs.length:Int):=by omega
  simp only[vW,seval,d8,clV];refine zE (σ:={k:Nat // k≤c.fs.length∧z24 c.fs k (c.fs.drop k)=R}) (fun k=>⟨[(1,.ptr 1 0),(3,I (k.1:Int))],[(1,[S (str c.n),.pv (.sl 4 (flR c.fs))])],[],[]⟩) (fun k=>c.fs.length-k.1) ⟨0,Nat.zero_le _,by simpa using hR⟩ ?_ ?_
  ·exact lwA
  rintro⟨k,hk,hT⟩;by_cases hlt:k<c.fs.length
  ·have d1:(k:Int)<(c.fs.length:Int):=by omega
   obtain⟨f,ef⟩:∃f,c.fs[k]?=some f:=⟨_,gE hlt⟩
   have hmem:=gM ef;have HF:=z4R g f.n (hc.fs f hmem);have HT:=z9J g f.t;have w1:=wS k;have hdr:c.fs.drop k=f::c.fs.drop (k+1):=by
    rw[List.drop_eq_getElem_cons hlt];congr 1;rw[gE hlt]at ef;exact Option.some.inj ef
   rw[hdr,z5q]at hT;have hrf:zK f=(zm f.n&&zf f.t&&(!f.ix||decide (f.t.k≤3))):=rfl;unfold tyT B at*;simp only[vW,seval,d1,ef,clV];refine z6 HF ?_;cases h2:zm f.n
   ·rw[hrf,h2]at hT;simp only[Bool.false_and]at hT;subst hT;simp only[vW,seval]
   simp only[vW,seval];refine z6 HT ?_;cases h3:zf f.t
   ·rw[hrf,h2,h3]at hT;simp only[Bool.false_and,Bool.and_false]at hT;subst hT;simp only[vW,seval]
   rw[hrf,h2,h3,Bool.true_and,Bool.true_and]at hT;have inner:∀(hR2:(fieldAt c.fs f.n==(k:Int)&&z24 c.fs (k+1) (c.fs.drop (k+1)))=R),True:=fun _=>trivial;have hix:(f.ix=false∧(!f.ix||decide (f.t.k≤3))=true)∨(f.ix=true∧f.t.k≤3∧(!f.ix||decide (f.t.k≤3))=true)∨(f.ix=true∧¬f.t.k≤3∧(!f.ix||decide (f.t.k≤3))=false):=by
    cases f.ix
    ·exact .inl ⟨rfl,rfl⟩
    ·by_cases h:f.t.k≤3
     ·exact .inr (.inl ⟨rfl,h,by rw[decide_eq_true h];rfl⟩)
     ·exact .inr (.inr ⟨rfl,h,by rw[decide_eq_false h];rfl⟩)
   rcases hix with⟨e1,e2⟩|⟨e1,e3,e2⟩|⟨e1,e3,e2⟩
   ·rw[e2,Bool.true_and]at hT;simp only[vW,seval,e1];refine zE (σ:={j:Nat // j≤k∧∀i y,i<j→c.fs[i]?=some y→(y.n==f.n)=false}) (fun j=>⟨[(1,.ptr 1 0),(3,I (k:Int)),(4,.ptr 4 0),(5,I (j.1:Int))],[(1,[S (str c.n),.pv (.sl 4 (flR c.fs))]),(4,[S (str f.n),I f.t.k,I f.t.o,.pv (.v (.bool f.ix))])],[],[]⟩) (fun j=>k-j.1) ⟨0,Nat.zero_le _,fun i y h=>by omega⟩ ?_ ?_
    ·apply z0l<;>simp[leL,lk,sv,Nat.beq,I,S,ES.kill,has,drp,zM,e1]
    rintro⟨j,hj,hno⟩;by_cases hjk:j<k
    ·have d2:(j:Int)<(k:Int):=by omega
     obtain⟨y,ey⟩:∃y,c.fs[j]?=some y:=⟨_,gE (by omega)⟩
     have w2:=wS j;cases hy:(y.n==f.n)
     ·simp only[vW,seval,d2,ey,hy,clV,w2];refine zc ⟨j+1,by omega,fun i z hi hz=> ?_⟩ (by show k-(j+1)<k-j;omega) ?_
      ·by_cases hij:i=j
       ·subst hij;rw[ey]at hz;cases hz;exact hy
       ·exact hno i z (by omega) hz
      ·exact lwA
     ·have hne:(fieldAt c.fs f.n==(k:Int))=false:=by
       rw[beq_eq_false_iff_ne];intro he;have:=z2v (fun x:Fld=>x.n==f.n) c.fs k he j y hjk ey;rw[hy]at this;cases this
      rw[hne,Bool.false_and]at hT;subst hT;simp only[vW,seval,d2,ey,hy,clV]
    ·have d2:¬(j:Int)<(k:Int):=by omega
     obtain rfl:j=k:=by omega
     have he:(fieldAt c.fs f.n==(j:Int))=true:=by
      rw[beq_iff_eq];exact z4F (fun x:Fld=>x.n==f.n) c.fs j f ef (by simp) (fun i y hi hy=>hno i y hi hy)
     rw[he,Bool.true_and]at hT;simp only[vW,seval,d2,w1];refine zc ⟨j+1,hlt,hT⟩ (by show c.fs.length-(j+1)<c.fs.length-j;omega) ?_;exact lwA
   ·rw[e2,Bool.true_and]at hT;have e4:¬(3:Int)<f.t.k:=by omega
    simp only[vW,seval,e1,e4];refine zE (σ:={j:Nat // j≤k∧∀i y,i<j→c.fs[i]?=some y→(y.n==f.n)=false}) (fun j=>⟨[(1,.ptr 1 0),(3,I (k:Int)),(4,.ptr 4 0),(5,I (j.1:Int))],[(1,[S (str c.n),.pv (.sl 4 (flR c.fs))]),(4,[S (str f.n),I f.t.k,I f.t.o,.pv (.v (.bool f.ix))])],[],[]⟩) (fun j=>k-j.1) ⟨0,Nat.zero_le _,fun i y h=>by omega⟩ ?_ ?_
    ·apply z0l<;>simp[leL,lk,sv,Nat.beq,I,S,ES.kill,has,drp,zM,e1]
    rintro⟨j,hj,hno⟩;by_cases hjk:j<k
    ·have d2:(j:Int)<(k:Int):=by omega
     obtain⟨y,ey⟩:∃y,c.fs[j]?=some y:=⟨_,gE (by omega)⟩
     have w2:=wS j;cases hy:(y.n==f.n)
     ·simp only[vW,seval,d2,ey,hy,clV,w2];refine zc ⟨j+1,by omega,fun i z hi hz=> ?_⟩ (by show k-(j+1)<k-j;omega) ?_
      ·by_cases hij:i=j
       ·subst hij;rw[ey]at hz;cases hz;exact hy
       ·exact hno i z (by omega) hz
      ·exact lwA
     ·have hne:(fieldAt c.fs f.n==(k:Int))=false:=by
       rw[beq_eq_false_iff_ne];intro he;have:=z2v (fun x:Fld=>x.n==f.n) c.fs k he j y hjk ey;rw[hy]at this;cases this
      rw[hne,Bool.false_and]at hT;subst hT;simp only[vW,seval,d2,ey,hy,clV]
    ·have d2:¬(j:Int)<(k:Int):=by omega
     obtain rfl:j=k:=by omega
     have he:(fieldAt c.fs f.n==(j:Int))=true:=by
      rw[beq_iff_eq];exact z4F (fun x:Fld=>x.n==f.n) c.fs j f ef (by simp) (fun i y hi hy=>hno i y hi hy)
     rw[he,Bool.true_and]at hT;simp only[vW,seval,d2,w1];refine zc ⟨j+1,hlt,hT⟩ (by show c.fs.length-(j+1)<c.fs.length-j;omega) ?_;exact lwA
   ·rw[e2]at hT;simp only[Bool.false_and]at hT;subst hT;have e4:(3:Int)<f.t.k:=by omega
    simp only[vW,seval,e1,e4]
  ·have d1:¬(k:Int)<(c.fs.length:Int):=by omega
   have hdr:c.fs.drop k=[]:=List.drop_eq_nil_of_le (by omega);rw[hdr]at hT;simp only[vW,seval,d1,clV];rw[←hT];rfl
 ·rw[decide_eq_false h8]at hR;subst hR;have d8:(8:Int)<(c.fs.length:Int):=by omega
  simp only[vW,seval,d8,clV]
end
section
open Go.Sh.Cd2
theorem z4f(g:Sh.Glob)(x:V)(hx:VOk x):zC g 22 [tv x] [] (B (z1b x)) []:=by
 unfold z1b;by_cases k5:x.k=5
 ·rw[if_pos k5];obtain⟨k,n,s,l⟩:=x;simp only[Vk]at k5;subst k5;have hxl:∀y∈l,z0t y:=fun y hy=>hx.2 y hy;clear hx;simp only[Vn,Vs,Vl];have hn0:(n==0)=decide (n=0):=by rw[Bool.eq_iff_iff];simp
  rw[hn0];refine za tf_24 ?_;unfold B;by_cases n0:n=0
  ·subst n0;cases hs:s==[]
   ·simp only[vW,seval,e0,hs]
   ·by_cases h12:l.length≤12
    ·have d1:¬(12:Int)<(l.length:Int):=by omega
     simp only[vW,seval,e0,hs,d1,h12];refine zE (σ:={i:Nat // i≤l.length∧∀j y,j<i→l[j]?=some y→zR y=false}) (fun i=>⟨[(1,.ptr 1 0),(4,I (i.1:Int))],[(1,[I 5,I 0,S (str s),.pv (.sl 4 (V.rows l))])],[],[]⟩) (fun i=>l.length-i.1) ⟨0,Nat.zero_le _,fun j y hj=>by omega⟩ ?_ ?_
     ·exact lwA
     rintro⟨i,hi,hno⟩;by_cases hlt:i<l.length
     ·have d2:(i:Int)<(l.length:Int):=by omega
      obtain⟨y,ey⟩:∃y,l[i]?=some y:=⟨_,gE hlt⟩
      have hm:=gM ey;have hany:zR y=true→l.any zR=true:=fun h=>List.any_eq_true.2 ⟨y,hm,h⟩;by_cases y5:y.k=5
      ·have hno':zR y=true:=by simp[zR,y5]
       simp only[vW,seval,d2,ey,y5];rw[hany hno'];rfl
      ·have HR:=z3o g y (hxl y hm) y5;have w1:=wS i;have hy5:(y.k==5)=false:=by simpa using y5
       unfold B at HR;simp only[vW,seval,d2,ey,y5];refine z6 HR ?_;cases hr:z1a y
       ·simp only[vW,seval];rw[hany (by simp[zR,hr])];rfl
       ·simp only[vW,seval,w1];refine zc ⟨i+1,by omega,fun j z hj hz=> ?_⟩ (by show l.length-(i+1)<l.length-i;omega) ?_
        ·by_cases hji:j=i
         ·subst hji;rw[ey]at hz;cases hz;simp[zR,hy5,hr]
         ·exact hno j z (by omega) hz
        ·exact lwA
     ·have d2:¬(i:Int)<(l.length:Int):=by omega
      have hall:l.any zR=false:=by
       rw[←Bool.not_eq_true,List.any_eq_true];rintro⟨y,hy,hp⟩;obtain⟨j,hj⟩:=List.getElem?_of_mem hy;rw[hno j y (by have:=(gJ hj).1;omega) hj]at hp;cases hp
      simp only[vW,seval,d2];rw[hall];rfl
    ·have d1:(12:Int)<(l.length:Int):=by omega
     simp only[vW,seval,e0,hs,d1,h12]
  ·simp only[vW,seval,n0]
 ·rw[if_neg k5];exact z3o g x hx.1 k5
theorem z4e(g:Sh.Glob)(k:Int):zC g 56 [I k] [] (B (decide (1≤k)&&decide (k≤4))) []:=by
 refine za tf_28 ?_;unfold B;by_cases q1:1≤k<;>by_cases q2:k≤4<;>simp only[vW,seval,q1,q2]
theorem z4S(g:Sh.Glob)(t:Ty):zC g 42 [tyT t] [] (B (zf t)) []:=by
 refine za tf_25 ?_;obtain⟨k,o⟩:=t;have H1:=z4e g k;have H2:=z4e g o;unfold B at*;by_cases k5:k=5
 ·subst k5;have e:zf ⟨5,o⟩=(decide (1≤o)&&decide (o≤4)):=by unfold zf;rw[if_pos rfl];simp
  rw[e];simp only[vW,seval];exact z0w H2
 ·have e:zf ⟨k,o⟩=((decide (1≤k)&&decide (k≤4))&&decide (o=0)):=by unfold zf;rw[if_neg k5];rw[Bool.eq_iff_iff];simp;omega
  rw[e];generalize(decide (1≤k)&&decide (k≤4))=p at*;simp only[vW,seval,k5];refine z6 H1 ?_;cases p<;>simp only[vW,seval]
theorem z4Q(g:Sh.Glob)(x:V)(k:Int):zC g 43 [tv x,I k] [] (B (zA x k)) []:=by
 refine za tf_27 ?_;unfold B;simp only[vW,seval];unfold zA
 repeat' (first|(apply And.intro)|(intro _))
 all_goals(first|(simp_all;done)|(simp only[Option.some.injEq,TV.pv.injEq,PV.v.injEq,Value.bool.injEq];rw[Bool.eq_iff_iff];simp_all;done)|(simp only[Option.some.injEq,TV.pv.injEq,PV.v.injEq,Value.bool.injEq];rw[Bool.eq_iff_iff];simp_all;omega))
theorem z7U(g:Sh.Glob)(x:V)(t:Ty)(hx:VOk x)(hl:x.l.length≤maxLen):zC g 23 [tv x,tyT t] [] (B (z1d x t)) []:=by
 refine za tf_22 ?_;have HR:=z4f g x hx;have HT:=z4S g t;have HK:=z4Q g x t.k;have hm:maxLen=9223372036854775807:=rfl;unfold z1d B at*;simp only[vW,seval];refine z2K HR ?_;refine z6 HT ?_;cases z1b x
 ·simp only[vW,seval]
 cases zf t
 ·simp only[vW,seval]
 simp only[vW,seval];refine z6 HK ?_;cases zA x t.k
 ·simp only[vW,seval]
 simp only[vW,seval];refine zE (σ:={i:Nat // i≤x.l.length∧∀j y,j<i→x.l[j]?=some y→(!zA y t.o)=false}) (fun i=>⟨[(2,.ptr 2 0),(3,.ptr 3 0),(7,I (i.1:Int))],[(2,[I x.k,I x.n,S (str x.s),.pv (.sl 4 (V.rows x.l))]),(3,[I t.k,I t.o])],[],[]⟩) (fun i=>x.l.length-i.1) ⟨0,Nat.zero_le _,fun j y hj=>by omega⟩ ?_ ?_
 ·exact lwA
 rintro⟨i,hi,hno⟩;by_cases hlt:i<x.l.length
 ·have d2:(i:Int)<(x.l.length:Int):=by omega
  obtain⟨y,ey⟩:∃y,x.l[i]?=some y:=⟨_,gE hlt⟩
  have HO:=z4Q g y t.o;have w1:=wS i;unfold B tv at HO;simp only[vW,seval,d2,ey];refine z6 HO ?_;cases hp:zA y t.o
  ·simp only[vW,seval];have:x.l.any (fun y=> !zA y t.o)=true:=List.any_eq_true.2 ⟨y,gM ey,by simp[hp]⟩;rw[this];rfl
  ·simp only[vW,seval,w1];refine zc ⟨i+1,by omega,fun j z hj hz=> ?_⟩ (by show x.l.length-(i+1)<x.l.length-i;omega) ?_
   ·by_cases hji:j=i
    ·subst hji;rw[ey]at hz;cases hz;simp[hp]
    ·exact hno j z (by omega) hz
   ·exact lwA
 ·have d2:¬(i:Int)<(x.l.length:Int):=by omega
  have hall:x.l.any (fun y=> !zA y t.o)=false:=by
   rw[←Bool.not_eq_true,List.any_eq_true];rintro⟨y,hy,hp⟩;obtain⟨j,hj⟩:=List.getElem?_of_mem hy;rw[hno j y (by have:=(gJ hj).1;omega) hj]at hp;cases hp
  simp only[vW,seval,d2];rw[hall];rfl
end
section
open Go.Sh.Cd7
theorem z6V(g:Sh.Glob)(c:Cls)(vs:List V)(hc:ClsOk c)(hv:∀x∈vs,VOk x∧x.l.length≤maxLen)(hl:vs.length≤4611686018427387904):zC g 10 [clT c,.pv (.sl 4 (V.rows vs))] [] (z21 (z2a c vs)) []:=by
 have HR:=z6s g c hc;have hlen:=hc.len;obtain⟨R,hR⟩:∃R,z2a c vs=R:=⟨_,rfl⟩
 rw[hR];unfold z2a at hR;refine za tf_29 ?_;unfold z21 clT B at*;simp only[vW,seval,clV];refine z6 HR ?_;cases h1:z07 c
 ·rw[h1]at hR;simp at hR;subst hR;simp only[vW,seval]
 rw[h1]at hR;simp only[Bool.not_true,Bool.false_eq_true,if_false]at hR;by_cases h2:vs.length=c.fs.length
 ·have d2:(vs.length:Int)=(c.fs.length:Int):=by omega
  rw[if_neg (by simpa using h2)]at hR;simp only[vW,seval,d2,clV];refine zE (σ:={k:Nat // k≤c.fs.length∧z1l k (c.fs.drop k) (vs.drop k)=R}) (fun k=>⟨[(1,.pv (.sl 4 (V.rows vs))),(2,.ptr 2 0),(6,I (k.1:Int))],[(2,[S (str c.n),.pv (.sl 4 (flR c.fs))])],[],[]⟩) (fun k=>c.fs.length-k.1) ⟨0,Nat.zero_le _,by simpa using hR⟩ ?_ ?_
  ·exact lwA
  rintro⟨k,hk,hT⟩;by_cases hlt:k<c.fs.length
  ·have d1:(k:Int)<(c.fs.length:Int):=by omega
   obtain⟨f,ef⟩:∃f,c.fs[k]?=some f:=⟨_,gE hlt⟩
   have hlt2:k<vs.length:=by omega
   obtain⟨v,ev⟩:∃v,vs[k]?=some v:=⟨_,gE hlt2⟩
   obtain⟨hv1,hv2⟩:=hv v (gM ev);have HV:=z4f g v hv1;have HF:=z7U g v f.t hv1 hv2;have w1:=wS k;have hdr:c.fs.drop k=f::c.fs.drop (k+1):=by
    rw[List.drop_eq_getElem_cons hlt];congr 1;rw[gE hlt]at ef;exact Option.some.inj ef
   have hdv:vs.drop k=v::vs.drop (k+1):=by
    rw[List.drop_eq_getElem_cons hlt2];congr 1;rw[gE hlt2]at ev;exact Option.some.inj ev
   rw[hdr,hdv,z1l]at hT;unfold B at HF HV;simp only[vW,seval,d1,d2,ef,ev,clV];refine z6 HV ?_;cases h4:z1b v
   ·have h3:z1d v f.t=false:=by unfold z1d;rw[h4];rfl
    rw[h3]at hT;simp only[Bool.false_eq_true,if_false]at hT;subst hT;simp only[vW,seval]
   simp only[vW,seval,ef,ev,clV];refine z6 HF ?_;cases h3:z1d v f.t
   ·rw[h3]at hT;simp only[Bool.false_eq_true,if_false]at hT;subst hT;simp only[vW,seval]
   ·rw[h3]at hT;simp only[if_true]at hT;simp only[vW,seval,w1];refine zc ⟨k+1,hlt,hT⟩ (by show c.fs.length-(k+1)<c.fs.length-k;omega) ?_;exact lwA
  ·have d1:¬(k:Int)<(c.fs.length:Int):=by omega
   have hdr:c.fs.drop k=[]:=List.drop_eq_nil_of_le (by omega);rw[hdr,z1l]at hT;subst hT;simp only[vW,seval,d1,d2]
 ·have d2:¬(vs.length:Int)=(c.fs.length:Int):=by omega
  rw[if_pos h2]at hR;subst hR;have hmin:min (vs.length:Int) (c.fs.length:Int)=((min vs.length c.fs.length:Nat):Int):=by omega
  simp only[vW,seval,d2,hmin,clV]
end
end Go.Proofs.YtcpaleaajdilgaaDoor
end
