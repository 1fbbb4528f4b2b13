/- Merged texts: Zy4 Zy5 Zy6 Zr2 Zr3 Pz3 Pq Pz4 Zy7 Zr4 Zy8 Zr5 Pz5 Rp1 Pz6 Cd2 Zw2 Pz1 PRead Zk3 Pz2 Zt8 Zl4 CSValues. No statement of the program is proved here. -/
import Derived.Test.YtcpaleaajdilgaaGreatDoorM1
import Derived.Test.YtcpaleaajdilgaaGreatDoorM2
import Derived.Test.YtcpaleaajdilgaaGreatDoorM3
import Derived.Lib.Replace
set_option linter.unusedSimpArgs false
set_option linter.unusedVariables false
section
namespace Go.Proofs.YtcpaleaajdilgaaGreatDoor
open Go Go.RowKit Go.Mor Go.Sh Go.Sh.Cd1
set_option maxRecDepth 100000
set_option maxHeartbeats 2000000
theorem bl_str(l:List UInt8):bl (str l)=l:=by simp[bl,str]
theorem in64_T{x:Int}(h:I64 x):in64 x=true:=by unfold in64;obtain⟨h1,h2⟩:=h;simp[h1,h2]
theorem num_ok(a0 a1:Addr)(m:Nat)(x:Int)(h:I64 x):SCalls Tryz.prog (gl a0 a1 m) 64 [I x] [] (S (str (num x))) []:=
 z91 a0 a1 m _ _ _ _ _ (by simp[prim1,I,Nat.beq,in64_T h])
theorem text_ok(a0 a1:Addr)(m:Nat)(l:List UInt8)(h:l.length≤10000):SCalls Tryz.prog (gl a0 a1 m) 93 [S (str l)] [] (.tuple [S (str (text l)),I 0]) []:=
 z91 a0 a1 m _ _ _ _ _ (by simp[prim1,S,Nat.beq,bl_str,textTV,h];omega)
theorem readNum_ok(a0 a1:Addr)(m:Nat)(l:List UInt8)(a:Int)(hl:l.length<1125899906842624)(h:I64 a):SCalls Tryz.prog (gl a0 a1 m) 124 [S (str l),I a] [] (numTV (z35 l a)) []:=
 z91 a0 a1 m _ _ _ _ _ (by simp[prim1,S,I,Nat.beq,bl_str,in64_T h,hl])
theorem readText_ok(a0 a1:Addr)(m:Nat)(l:List UInt8)(a:Int)(hl:l.length<1125899906842624)(h:I64 a):SCalls Tryz.prog (gl a0 a1 m) 125 [S (str l),I a] [] (readTV (z29 l a)) []:=
 z91 a0 a1 m _ _ _ _ _ (by simp[prim1,S,I,Nat.beq,bl_str,in64_T h,hl])
def enc1(x:V):List UInt8:=num x.k++(if x.k=1∨x.k=3∨x.k=4 then num x.n else if x.k=2 then text x.s else [])
def encV(x:V):List UInt8:=if x.k=5 then num 5++num x.l.length++x.l.flatMap enc1 else enc1 x
theorem text_len{l:List UInt8}(h:l.length≤60):(text l).length≤70:=by
 have:=z16 l.length;simp[text];omega
theorem lay_one(a0 a1:Addr)(m:Nat)(x:V)(b:List UInt8)(hk:I64 x.k)(hn:I64 x.n)(hs:x.s.length≤60)(h5:x.k≠5)(hb:b.length≤100000):
  SCalls Tryz.prog (gl a0 a1 m) 49 [.own 1000 1 (byR b),tv x] [.row 5 1 b.length] (.own 1000 1 (byR (b++enc1 x))) [.row 5 1 (b++enc1 x).length]:=by
 have HK:=num_ok a0 a1 m x.k hk;have HN:=num_ok a0 a1 m x.n hn;have lk':=z16 x.k;have ln:=z16 x.n;have hm:maxLen=9223372036854775807:=rfl;refine z25 hmix tf_50 rfl rfl (by simp[moOk,Nat.beq_refl,nble]) ?_;simp only[vcA,seval,vV];refine .inl ?_;(with_reducible apply v_call);simp only[vcA,seval,vV,byP,byApp,byLen,bySeq,strMk];rfl;rfl;exact HK;exact km;simp only[vcA,seval,vV,byP,byApp,byLen,bySeq,strMk];rfl;by_cases e1:x.k=1
 ·have nk:=z16 1;rw[show enc1 x=num x.k++num x.n by unfold enc1;rw[if_pos (by omega)]];simp only[vcA,seval,vV,byP,byApp,byLen,bySeq,strMk,e1,List.nil_append,Nat.zero_add];refine⟨⟨by omega,by omega⟩,.inl ?_⟩;(with_reducible apply v_call);simp only[vcA,seval,vV,byP,byApp,byLen,bySeq,strMk];rfl;rfl;exact HN;exact km;simp only[vcA,seval,vV,byP,byApp,byLen,bySeq,strMk];rfl;simp only[vcA,seval,vV,byP,byApp,byLen,bySeq,strMk];exact⟨⟨by omega,by omega⟩,by simp only[List.append_assoc,Nat.add_assoc,List.nil_append]⟩
 by_cases e3:x.k=3
 ·have nk:=z16 3;rw[show enc1 x=num x.k++num x.n by unfold enc1;rw[if_pos (by omega)]];simp only[vcA,seval,vV,byP,byApp,byLen,bySeq,strMk,e3,List.nil_append,Nat.zero_add];refine⟨⟨by omega,by omega⟩,.inl ?_⟩;(with_reducible apply v_call);simp only[vcA,seval,vV,byP,byApp,byLen,bySeq,strMk];rfl;rfl;exact HN;exact km;simp only[vcA,seval,vV,byP,byApp,byLen,bySeq,strMk];rfl;simp only[vcA,seval,vV,byP,byApp,byLen,bySeq,strMk];exact⟨⟨by omega,by omega⟩,by simp only[List.append_assoc,Nat.add_assoc,List.nil_append]⟩
 by_cases e4:x.k=4
 ·have nk:=z16 4;rw[show enc1 x=num x.k++num x.n by unfold enc1;rw[if_pos (by omega)]];simp only[vcA,seval,vV,byP,byApp,byLen,bySeq,strMk,e4,List.nil_append,Nat.zero_add];refine⟨⟨by omega,by omega⟩,.inl ?_⟩;(with_reducible apply v_call);simp only[vcA,seval,vV,byP,byApp,byLen,bySeq,strMk];rfl;rfl;exact HN;exact km;simp only[vcA,seval,vV,byP,byApp,byLen,bySeq,strMk];rfl;simp only[vcA,seval,vV,byP,byApp,byLen,bySeq,strMk];exact⟨⟨by omega,by omega⟩,by simp only[List.append_assoc,Nat.add_assoc,List.nil_append]⟩
 by_cases e2:x.k=2
 ·have nk:=z16 2;have tk:=text_len hs;rw[show enc1 x=num x.k++text x.s by unfold enc1;rw[if_neg (by omega),if_pos e2]];simp only[vcA,seval,vV,byP,byApp,byLen,bySeq,strMk,e2,List.nil_append,Nat.zero_add];refine⟨⟨by omega,by omega⟩,?_⟩;(with_reducible apply v_call);simp only[vcA,seval,vV,byP,byApp,byLen,bySeq,strMk];rfl;rfl;exact text_ok a0 a1 m x.s (by omega);exact km;simp only[vcA,seval,vV,byP,byApp,byLen,bySeq,strMk];rfl;simp only[vcA,seval,vV,byP,byApp,byLen,bySeq,strMk];exact⟨⟨by omega,by omega⟩,by simp only[List.append_assoc,Nat.add_assoc,List.nil_append]⟩
 rw[show enc1 x=num x.k by unfold enc1;rw[if_neg (by omega),if_neg e2,List.append_nil]];simp only[vcA,seval,vV,byP,byApp,byLen,bySeq,strMk,e1,e2,e3,e4,h5,List.nil_append,Nat.zero_add];exact⟨by omega,by omega⟩
theorem lay_nil1(a0 a1:Addr)(m:Nat)(x:V)(hk:I64 x.k)(hn:I64 x.n)(hs:x.s.length≤60)(h5:x.k≠5):
  SCalls Tryz.prog (gl a0 a1 m) 49 [nilT,tv x] [] (.own 1000 1 (byR (enc1 x))) [.row 5 1 (enc1 x).length]:=by
 have HK:=num_ok a0 a1 m x.k hk;have HN:=num_ok a0 a1 m x.n hn;have lk':=z16 x.k;have ln:=z16 x.n;have hm:maxLen=9223372036854775807:=rfl;refine z25 hmix tf_50 rfl rfl (by simp[moOk,nble]) ?_;simp only[vcA,seval,vV,nilT];refine .inr ?_;(with_reducible apply v_call);simp only[vcA,seval,vV,byP,byApp,byLen,bySeq,strMk];rfl;rfl;exact HK;exact km;simp only[vcA,seval,vV,byP,byApp,byLen,bySeq,strMk];rfl;by_cases e1:x.k=1
 ·have nk:=z16 1;rw[show enc1 x=num x.k++num x.n by unfold enc1;rw[if_pos (by omega)]];simp only[vcA,seval,vV,byP,byApp,byLen,bySeq,strMk,e1,List.nil_append,Nat.zero_add];refine⟨⟨by omega,by omega⟩,.inl ?_⟩;(with_reducible apply v_call);simp only[vcA,seval,vV,byP,byApp,byLen,bySeq,strMk];rfl;rfl;exact HN;exact km;simp only[vcA,seval,vV,byP,byApp,byLen,bySeq,strMk];rfl;simp only[vcA,seval,vV,byP,byApp,byLen,bySeq,strMk];exact⟨by omega,by omega⟩
 by_cases e3:x.k=3
 ·have nk:=z16 3;rw[show enc1 x=num x.k++num x.n by unfold enc1;rw[if_pos (by omega)]];simp only[vcA,seval,vV,byP,byApp,byLen,bySeq,strMk,e3,List.nil_append,Nat.zero_add];refine⟨⟨by omega,by omega⟩,.inl ?_⟩;(with_reducible apply v_call);simp only[vcA,seval,vV,byP,byApp,byLen,bySeq,strMk];rfl;rfl;exact HN;exact km;simp only[vcA,seval,vV,byP,byApp,byLen,bySeq,strMk];rfl;simp only[vcA,seval,vV,byP,byApp,byLen,bySeq,strMk];exact⟨by omega,by omega⟩
 by_cases e4:x.k=4
 ·have nk:=z16 4;rw[show enc1 x=num x.k++num x.n by unfold enc1;rw[if_pos (by omega)]];simp only[vcA,seval,vV,byP,byApp,byLen,bySeq,strMk,e4,List.nil_append,Nat.zero_add];refine⟨⟨by omega,by omega⟩,.inl ?_⟩;(with_reducible apply v_call);simp only[vcA,seval,vV,byP,byApp,byLen,bySeq,strMk];rfl;rfl;exact HN;exact km;simp only[vcA,seval,vV,byP,byApp,byLen,bySeq,strMk];rfl;simp only[vcA,seval,vV,byP,byApp,byLen,bySeq,strMk];exact⟨by omega,by omega⟩
 by_cases e2:x.k=2
 ·have nk:=z16 2;have tk:=text_len hs;rw[show enc1 x=num x.k++text x.s by unfold enc1;rw[if_neg (by omega),if_pos e2]];simp only[vcA,seval,vV,byP,byApp,byLen,bySeq,strMk,e2,List.nil_append,Nat.zero_add];refine⟨⟨by omega,by omega⟩,?_⟩;(with_reducible apply v_call);simp only[vcA,seval,vV,byP,byApp,byLen,bySeq,strMk];rfl;rfl;exact text_ok a0 a1 m x.s (by omega);exact km;simp only[vcA,seval,vV,byP,byApp,byLen,bySeq,strMk];rfl;simp only[vcA,seval,vV,byP,byApp,byLen,bySeq,strMk];exact⟨by omega,by omega⟩
 rw[show enc1 x=num x.k by unfold enc1;rw[if_neg (by omega),if_neg e2,List.append_nil]];simp only[vcA,seval,vV,byP,byApp,byLen,bySeq,strMk,e1,e2,e3,e4,h5,List.nil_append,Nat.zero_add];exact⟨by omega,by omega⟩
theorem enc1_len{x:V}(hs:x.s.length≤60):(enc1 x).length≤80:=by
 have h1:=z16 x.k;have h2:=z16 x.n;have h3:=text_len hs;unfold enc1;rw[List.length_append];split
 ·omega
 split
 ·omega
 ·simp;omega
def V1Ok(x:V):Prop:=I64 x.k∧I64 x.n∧x.s.length≤60
def encTo(l:List V)(i:Nat):List UInt8:=num 5++num l.length++(l.take i).flatMap enc1
theorem encTo_succ{l:List V}{i:Nat}{y:V}(h:l[i]?=some y):encTo l (i+1)=encTo l i++enc1 y:=by
 unfold encTo;rw[List.take_add_one,h];simp
theorem encTo_len{l:List V}(h:∀y∈l,y.s.length≤60):∀i,(encTo l i).length≤20+i*80
 |0=>by have h1:=z16 5;have h2:=z16 l.length;simp[encTo];omega
 |i+1=>by
  have ih:=encTo_len h i;cases hy:l[i]? with
  |none=>
   have:encTo l (i+1)=encTo l i:=by unfold encTo;rw[List.take_add_one,hy];simp
   rw[this];omega
  |some y=>
   have:=enc1_len (h y (gM hy));rw[encTo_succ hy,List.length_append];omega
theorem lay_nilL(a0 a1:Addr)(m:Nat)(x:V)(h5:x.k=5)(hl:x.l.length≤12)(hx:∀y∈x.l,V1Ok y∧y.k≠5):
  SCalls Tryz.prog (gl a0 a1 m) 49 [nilT,tv x] [] (.own 1000 1 (byR (encTo x.l x.l.length))) [.row 5 1 (encTo x.l x.l.length).length]:=by
 have HK:=num_ok a0 a1 m 5 (by unfold I64;decide);have HN:=num_ok a0 a1 m x.l.length (by unfold I64;omega);have lk':=z16 5;have ln:=z16 x.l.length;have hm:maxLen=9223372036854775807:=rfl;have hL:=encTo_len (l:=x.l) (fun y hy=>(hx y hy).1.2.2);refine z25 hmix tf_50 rfl rfl (by simp[moOk,nble]) ?_;simp only[vcA,seval,vV,nilT,h5];refine .inr ?_;(with_reducible apply v_call);simp only[vcA,seval,vV,byP,byApp,byLen,bySeq,strMk];rfl;rfl;exact HK;exact km;simp only[vcA,seval,vV,byP,byApp,byLen,bySeq,strMk];rfl;simp only[vcA,seval,vV,byP,byApp,byLen,bySeq,strMk];refine⟨⟨by omega,by omega⟩,.inl ?_⟩;(with_reducible apply v_call);simp only[vcA,seval,vV,byP,byApp,byLen,bySeq,strMk];rfl;rfl;exact HN;exact km;simp only[vcA,seval,vV,byP,byApp,byLen,bySeq,strMk];rfl;simp only[vcA,seval,vV,byP,byApp,byLen,bySeq,strMk];refine⟨⟨by omega,by omega⟩,?_⟩;have e0:encTo x.l 0=num 5++num x.l.length:=by simp[encTo]
 refine v_loop (σ:={ i:Nat // i≤x.l.length })
  (fun i=>⟨[(0,.own 13 1 (byR (encTo x.l i.1))),(45,.pv (.sl 4 (V.rows x.l))),(46,I (x.l.length:Int)),(47,I (i.1:Int))],[],[(13,(5,1,(encTo x.l i.1).length))],[]⟩)
  (fun i=>x.l.length-i.1) ⟨0,Nat.zero_le _⟩ ?_ ?_
 ·simp only[e0,List.length_append];apply lw_of<;>simp[leL,lk,sv,Nat.beq,I,S,ES.kill,has,drp,nilT]
 rintro⟨i,hi⟩;have hLi:=hL i;simp only[vcA,seval,vV,byP,byApp,byLen,bySeq,strMk];refine⟨fun hlt=>⟨by omega,fun y hy=> ?_⟩,fun hge=> ?_⟩
 ·obtain⟨⟨o1,o2,o3⟩,o4⟩:=hx y (gM hy);have hH:=lay_one a0 a1 m y (encTo x.l i) o1 o2 o3 o4 (by omega);have hle:(encTo x.l i).length≤(encTo x.l (i+1)).length:=by rw[encTo_succ hy];simp
  have hle0:Nat.ble 0 4=true:=rfl;rw[←encTo_succ hy]at hH;(with_reducible apply v_call);simp only[vcA,seval,vV,byP,byApp,byLen,bySeq,strMk];rfl;rfl;exact hH;exact km;simp only[vcA,seval,vV,byP,byApp,byLen,bySeq,strMk];rfl;simp only[vcA,seval,vV,byP,byApp,byLen,bySeq,strMk];refine z11 ⟨i+1,by omega⟩ (by show x.l.length-(i+1)<x.l.length-i;omega) ?_;have w1:IntKind.i64.wrap ((i:Int)+1)=(i:Int)+1:=wrap64 (by omega) (by omega);apply lw_of<;>simp[leL,lk,sv,Nat.beq,I,S,ES.kill,has,drp,nilT,w1]
 ·obtain rfl:i=x.l.length:=by omega
  trivial
theorem z87{x:V}(h:right1 x=true):x=.mk 0 0 [] []∨(∃n, -1000000000000000≤n∧n≤1000000000000000∧x=.mk 1 n [] [])∨(∃s,z15 s=true∧x=.mk 2 0 s [])∨(∃k n,(k=3∨k=4)∧z71 n=true∧x=.mk k n [] []):=by
 unfold right1 bare at h;have e:=V.eta x;by_cases h0:x.k=0
 ·rw[if_pos h0]at h;simp at h;obtain⟨⟨h1,h2⟩,h3⟩:=h;exact .inl (by rw[←e,h0,h1,h2,h3])
 rw[if_neg h0]at h;by_cases h0:x.k=1
 ·rw[if_pos h0]at h;simp at h;obtain⟨⟨⟨h1,h2⟩,h3⟩,h4⟩:=h;exact .inr (.inl ⟨x.n,h3,h4,by rw[←e,h0,h1,h2];rfl⟩)
 rw[if_neg h0]at h;by_cases h0:x.k=2
 ·rw[if_pos h0]at h;simp at h;obtain⟨⟨h1,h2⟩,h3⟩:=h;exact .inr (.inr (.inl ⟨x.s,h3,by rw[←e,h0,h1,h2];rfl⟩))
 rw[if_neg h0]at h;by_cases h0:x.k=3∨x.k=4
 ·rw[if_pos h0]at h;simp at h;obtain⟨⟨h1,h2⟩,h3⟩:=h;exact .inr (.inr (.inr ⟨x.k,x.n,h0,h3,by rw[←e,h1,h2];rfl⟩))
 ·rw[if_neg h0]at h;cases h
theorem z67{s:List UInt8}(h:z15 s=true):s.length≤60:=by unfold z15 at h;simp at h;exact h.1
theorem z92{n:Int}(h:z71 n=true):(1≤n∧n≤100000)∨(-20≤n∧n≤ -1):=by unfold z71 at h;simpa using h
theorem right1_ok{x:V}(h:right1 x=true):V1Ok x∧x.k≠5∧x.l=[]:=by
 unfold V1Ok I64;rcases z87 h with rfl|⟨n,h1,h2,rfl⟩|⟨s,h1,rfl⟩|⟨k,n,h1,h2,rfl⟩
 ·refine⟨⟨⟨?_,?_⟩,⟨?_,?_⟩,?_⟩,?_,rfl⟩<;>simp[V.k,V.n,V.s]
 ·refine⟨⟨⟨?_,?_⟩,⟨?_,?_⟩,?_⟩,?_,rfl⟩<;>simp[V.k,V.n,V.s]<;>omega
 ·have:=z67 h1;refine⟨⟨⟨?_,?_⟩,⟨?_,?_⟩,?_⟩,?_,rfl⟩<;>simp[V.k,V.n,V.s]<;>omega
 ·have:=z92 h2;refine⟨⟨⟨?_,?_⟩,⟨?_,?_⟩,?_⟩,?_,rfl⟩<;>simp[V.k,V.n,V.s]<;>omega
theorem z64{x:V}(h:rightV x=true)(h5:x.k=5):x.n=0∧x.s=[]∧x.l.length≤12∧∀y∈x.l,y.k≠5∧right1 y=true:=by
 unfold rightV at h;rw[if_pos h5]at h;simp only[Bool.and_eq_true,beq_iff_eq,decide_eq_true_eq,Bool.not_eq_true',List.any_eq_false]at h;obtain⟨⟨⟨h1,h2⟩,h3⟩,h4⟩:=h;refine⟨h1,h2,h3,fun y hy=> ?_⟩;have:=h4 y hy;unfold noItem at this;simp at this;exact this
theorem z65{x:V}(h:rightV x=true)(h5:x.k≠5):right1 x=true:=by unfold rightV at h;rwa [if_neg h5]at h
def encTV(x:V):TV:=if rightV x then .tuple [S (str (encV x)),I 0] else .tuple [S (str []),I 30]
theorem encTo_all(x:V)(h5:x.k=5):encTo x.l x.l.length=encV x:=by
 unfold encTo encV;rw[if_pos h5,List.take_of_length_le (Nat.le_refl _)]
theorem lay_ok(a0 a1:Addr)(m:Nat)(x:V)(h:rightV x=true):SCalls Tryz.prog (gl a0 a1 m) 49 [nilT,tv x] [] (.own 1000 1 (byR (encV x))) [.row 5 1 (encV x).length]:=by
 by_cases h5:x.k=5
 ·obtain⟨h1,h2,h3,h4⟩:=z64 h h5;rw[←encTo_all x h5];exact lay_nilL a0 a1 m x h5 h3 (fun y hy=>⟨(right1_ok (h4 y hy).2).1,(h4 y hy).1⟩)
 ·obtain⟨⟨o1,o2,o3⟩,_,_⟩:=right1_ok (z65 h h5);have:=lay_nil1 a0 a1 m x o1 o2 o3 h5;unfold encV;rw[if_neg h5];exact this
theorem encode_ok(a0 a1:Addr)(m:Nat)(x:V)(hx:VOk x):SCalls Tryz.prog (gl a0 a1 m) 14 [tv x] [] (encTV x) []:=by
 have HR:=rightV_ok a0 a1 m x hx;refine z8 hmix tf_37 rfl ?_;unfold encTV;simp only[vcA,seval,vV];(with_reducible apply v_call);exact kv;rfl;exact HR;exact km;exact kv;cases hr:rightV x
 ·simp only[vcA,seval,vV];rfl
 ·have HL:=lay_ok a0 a1 m x hr;simp only[vcA,seval,vV];(with_reducible apply v_call);simp only[vcA,seval,vV,nilT];rfl;rfl;exact HL;exact km;simp only[vcA,seval,vV,nilT];rfl;simp only[vcA,seval,vV,byP,byApp,byLen,bySeq,strMk]
def dNum(s:List UInt8)(a lo hi:Int):Except Int (Int×Int):=match z35 s a with
 |none=> .error 10
 |some (n,b)=>if n<lo∨hi<n then .error 30 else .ok (n,b)
def dText(s:List UInt8)(a:Int):Except Int (List UInt8×Int):=match z29 s a with
 |none=> .error 10
 |some (t,b)=>if z15 t then .ok (t,b)else .error 30
def dRest(s:List UInt8)(k b:Int):Except Int (V×Int):=
 if k=1 then match dNum s b (-1000000000000000) 1000000000000000 with
  | .ok (n,c)=> .ok (.mk 1 n [] [],c)
  | .error e=> .error e
 else if k=2 then match dText s b with
  | .ok (t,c)=> .ok (.mk 2 0 t [],c)
  | .error e=> .error e
 else if k=3∨k=4 then match dNum s b (-20) 100000 with
  | .ok (n,c)=>if n=0 then .error 30 else .ok (.mk k n [] [],c)
  | .error e=> .error e
 else .ok (.mk k 0 [] [],b)
def dVal1(s:List UInt8)(a:Int):Except Int (V×Int):=match dNum s a 0 4 with
 | .ok (k,b)=>dRest s k b
 | .error e=> .error e
def dLoop(s:List UInt8):Nat→Int→List V→Except Int (List V×Int)
 |0,a,l=> .ok (l,a)
 |n+1,a,l=>match dVal1 s a with
  | .ok (v,b)=>dLoop s n b (l++[v])
  | .error e=> .error e
def dItems(s:List UInt8)(a:Int):Except Int (List V×Int):=match dNum s a 0 12 with
 | .ok (n,b)=>dLoop s n.toNat b []
 | .error e=> .error e
def dVal(s:List UInt8)(a:Int):Except Int (V×Int):=match dNum s a 0 5 with
 | .ok (k,b)=>if k=5 then(match dItems s b with| .ok (l,c)=> .ok (.mk 5 0 [] l,c)| .error e=> .error e)else dRest s k b
 | .error e=> .error e
def dec(s:List UInt8)(a:Int):MO:=.box [S (str s),I a]
def SmallS(s:List UInt8):Prop:=s.length<1125899906842624
theorem dNum_inv{s:List UInt8}{a lo hi n b:Int}(h:dNum s a lo hi=.ok (n,b)):z35 s a=some (n,b)∧lo≤n∧n≤hi:=by
 unfold dNum at h;split at h
 ·cases h
 ·rename_i n' b' hr;split at h
  ·cases h
  ·cases h;exact⟨hr,by omega,by omega⟩
theorem dNum_pos{s:List UInt8}{a lo hi n b:Int}(hs:SmallS s)(h:dNum s a lo hi=.ok (n,b)):I64 b∧I64 n:=by
 have:=readNum_bound (dNum_inv h).1;unfold SmallS at hs;unfold I64;omega
theorem number_ok(a0 a1:Addr)(m:Nat)(s:List UInt8)(a lo hi:Int)(hs:SmallS s)(ha:I64 a){n b:Int}(h:dNum s a lo hi=.ok (n,b)):
  SCalls Tryz.prog (gl a0 a1 m) 94 [.ptr 1000 0,I lo,I hi] [dec s a] (.tuple [I n,I 0]) [dec s b]:=by
 obtain⟨hr,h1,h2⟩:=dNum_inv h;have HR:=readNum_ok a0 a1 m s a hs ha;rw[hr]at HR;refine z25 hmix tf_3 rfl rfl rfl ?_;simp only[vcA,seval,vV,dec];(with_reducible apply v_call);simp only[vcA,seval,vV,numTV];rfl;rfl;exact HR;exact km;simp only[vcA,seval,vV,numTV];rfl;have l1:¬n<lo:=by omega
 have l2:¬hi<n:=by omega
 simp only[vcA,seval,vV,l1,l2,dec]
theorem dtext_ok(a0 a1:Addr)(m:Nat)(s:List UInt8)(a:Int)(hs:SmallS s)(ha:I64 a){t:List UInt8}{b:Int}(h:dText s a=.ok (t,b)):
  SCalls Tryz.prog (gl a0 a1 m) 95 [.ptr 1000 0] [dec s a] (.tuple [S (str t),I 0]) [dec s b]:=by
 have HR:=readText_ok a0 a1 m s a hs ha;unfold dText at h;cases hr:z29 s a with
 |none=>rw[hr]at h;cases h
 |some q=>
  obtain⟨t',b'⟩:=q;rw[hr]at h HR;have hb:=z126 hr;simp only[]at h;by_cases hc:z15 t'=true
  ·rw[if_pos hc]at h;cases h;have HT:=rightText_ok a0 a1 m t (by omega);rw[hc]at HT;refine z25 hmix tf_4 rfl rfl rfl ?_;simp only[vcA,seval,vV,dec];(with_reducible apply v_call);simp only[vcA,seval,vV,readTV];rfl;rfl;exact HR;exact km;simp only[vcA,seval,vV,readTV];rfl;simp only[vcA,seval,vV,dec];(with_reducible apply v_call);exact kv;rfl;exact HT;exact km;exact kv;simp only[vcA,seval,vV,dec]
  ·rw[if_neg hc]at h;cases h
theorem value1_ok(a0 a1:Addr)(m:Nat)(s:List UInt8)(a hi:Int)(hs:SmallS s)(ha:I64 a){k b c:Int}{v:V}(hk:dNum s a 0 hi=.ok (k,b))(h5:k≠5)(h:dRest s k b=.ok (v,c)):
  SCalls Tryz.prog (gl a0 a1 m) 50 [.ptr 1000 0,I hi] [dec s a] (.tuple [nv v,I 0]) [dec s c]:=by
 have HK:=number_ok a0 a1 m s a 0 hi hs ha hk;obtain⟨hb,hkk⟩:=dNum_pos hs hk;have hk0:=(dNum_inv hk).2.1;refine z25 hmix tf_5 rfl rfl rfl ?_;unfold dec at HK ⊢;simp only[vcA,seval,vV];(with_reducible apply v_call);exact kv;rfl;exact HK;exact km;exact kv;unfold dRest at h;by_cases e1:k=1
 ·subst e1;rw[if_pos rfl]at h;cases hn:dNum s b (-1000000000000000) 1000000000000000 with
  |error e=>rw[hn]at h;cases h
  |ok q=>
   obtain⟨n,c'⟩:=q;rw[hn]at h;cases h;have HN:=number_ok a0 a1 m s b _ _ hs hb hn;unfold dec at HN;simp only[vcA,seval,vV];(with_reducible apply v_call);exact kv;rfl;exact HN;exact km;exact kv;simp only[vcA,seval,vV];rfl
 rw[if_neg e1]at h;by_cases e2:k=2
 ·subst e2;rw[if_pos rfl]at h;cases hn:dText s b with
  |error e=>rw[hn]at h;cases h
  |ok q=>
   obtain⟨n,c'⟩:=q;rw[hn]at h;cases h;have HN:=dtext_ok a0 a1 m s b hs hb hn;unfold dec at HN;simp only[vcA,seval,vV];(with_reducible apply v_call);exact kv;rfl;exact HN;exact km;exact kv;simp only[vcA,seval,vV]
 rw[if_neg e2]at h;by_cases e3:k=3∨k=4
 ·rw[if_pos e3]at h;cases hn:dNum s b (-20) 100000 with
  |error e=>rw[hn]at h;cases h
  |ok q=>
   obtain⟨n,c'⟩:=q;rw[hn]at h;simp only[]at h;by_cases hz:n=0
   ·rw[if_pos hz]at h;cases h
   rw[if_neg hz]at h;cases h;have HN:=number_ok a0 a1 m s b _ _ hs hb hn;unfold dec at HN;rcases e3 with rfl|rfl
   ·simp only[vcA,seval,vV];(with_reducible apply v_call);exact kv;rfl;exact HN;exact km;exact kv;simp only[vcA,seval,vV,hz];rfl
   ·simp only[vcA,seval,vV];(with_reducible apply v_call);exact kv;rfl;exact HN;exact km;exact kv;simp only[vcA,seval,vV,hz];rfl
 rw[if_neg e3]at h;cases h;have e3':¬k=3:=fun h=>e3 (.inl h);have e4':¬k=4:=fun h=>e3 (.inr h);simp only[vcA,seval,vV,e1,e2,e3',e4',h5];rfl
end Go.Proofs.YtcpaleaajdilgaaGreatDoor
end

section
namespace Go.Proofs.YtcpaleaajdilgaaGreatDoor
open Go Go.RowKit Go.Mor Go.Sh Go.Sh.Cd1
set_option maxRecDepth 100000
set_option maxHeartbeats 4000000
theorem decodeGo_L{l:List UInt8}(h:l≠[]):Lib.decodeGo (str l)=Lib.decodeL l:=by
 unfold Lib.decodeGo Lib.decodeL;rw[if_neg (by rw[str_size'];exact fun h0=>h (List.eq_nil_of_length_eq_zero h0))];rfl
theorem decode_low{b:UInt8}{t:List UInt8}(h:(Lib.decodeL (b::t)).1<128):(Lib.decodeL (b::t)).1=b.toNat∧(Lib.decodeL (b::t)).2=1:=by
 by_cases hb:b.toNat<128
 ·rw[Lib.decodeL_ascii b t hb];exact⟨rfl,rfl⟩
 ·rw[Lib.decodeL_N]at h;have:=(rune_lo (b::t).length ((b::t).getD 0 0).toNat ((b::t).getD 1 0).toNat ((b::t).getD 2 0).toNat ((b::t).getD 3 0).toNat).2 (by simp;omega);omega
theorem decodeL_le4(l:List UInt8):(Lib.decodeL l).2≤4:=by
 rw[Lib.decodeL_N];unfold Lib.decodeN
 (repeat' split)<;>simp
def quoGo:Nat→List UInt8→List UInt8→Nat→List UInt8×Nat
 |0,_,_,_=>([],0)
 |f+1,r,t,k=>
  if r=[]∨60<t.length then([],0)
  else if(Lib.decodeL r).1=34 then(if z15 t then(t,k+1)else([],0))
  else if(Lib.decodeL r).1=92 then(match r.drop 1 with
   |[]=>([],0)
   |c::r'=>if c.toNat=34∨c.toNat=92 then quoGo f r' (t++[c]) (k+2)else([],0))
  else quoGo f (r.drop (Lib.decodeL r).2) (t++r.take (Lib.decodeL r).2) (k+(Lib.decodeL r).2)
def quoV(l:List UInt8):List UInt8×Nat:=quoGo l.length (l.drop 1) [] 1
theorem quoGo_nil(f:Nat)(t:List UInt8)(k:Nat):quoGo f [] t k=([],0):=by cases f<;>simp[quoGo]
theorem quoted_ok(a0 a1:Addr)(m:Nat)(l:List UInt8)(hl:l.length<1125899906842624)(h1:1≤l.length):SCalls Tryz.prog (gl a0 a1 m) 102 [S (str l)] [] (.tuple [S (str (quoV l).1),I ((quoV l).2:Int)]) []:=by
 refine z8 hmix tf_56 rfl ?_;have hm:maxLen=9223372036854775807:=rfl;simp only[vcA,seval,vV];refine v_loop (σ:={ q:Nat×List UInt8×Nat // q.1≤l.length∧1≤q.1∧q.2.1.length≤70∧l.length≤q.2.2+q.1∧quoV l=quoGo q.2.2 (l.drop q.1) q.2.1 q.1 })
  (fun q=>⟨[(0,S (str l)),(4,.own 3000 1 (byR q.1.2.1)),(5,I (q.1.1:Int))],[],[(3000,(5,1,q.1.2.1.length))],[]⟩)
  (fun q=>l.length-q.1.1) ⟨(1,[],l.length),h1,Nat.le_refl _,by simp,by simp,rfl⟩ ?_ ?_
 ·refine ES.Lw.trans ?_ (adT_lw (k:=4) (d:=3000) (e:=5) (W:=1) (.inr (by decide)) rfl);exact lw_eq rfl
 rintro⟨⟨k,t,f⟩,hk,hk1,ht,hf,hd⟩;simp only at hk hk1 ht hf hd;by_cases hlt:k<l.length
 ·have d1:(k:Int)<(l.length:Int):=by omega
  obtain⟨f',rfl⟩:∃f',f=f'+1:=⟨f-1,by omega⟩
  have hne:l.drop k≠[]:=by rw[Ne,List.drop_eq_nil_iff];omega
  have hle:=Lib.decodeL_le (l.drop k) hne;have hw:=Lib.decodeL_width (l.drop k);rw[quoGo]at hd;have tk:List.take (l.length-k) (l.drop k)=l.drop k:=List.take_of_length_le (by simp);have HD:=decodeRune_ok a0 a1 m (str (l.drop k));rw[decodeGo_L hne]at HD;have h4:=decodeL_le4 (l.drop k);have hlow:(Lib.decodeL (l.drop k)).1<128→(Lib.decodeL (l.drop k)).2=1:=by
   obtain⟨b,r,hbr⟩:∃b r,l.drop k=b::r:=List.exists_cons_of_ne_nil hne;rw[hbr];exact fun h=>(decode_low h).2
  rw[List.length_drop]at hle;by_cases h60:60<t.length
  ·rw[if_pos (.inr h60)]at hd;have d2:¬(t.length:Int)≤60:=by omega
   simp only[vcA,seval,vV,byP,byApp,byLen,bySeq,strMk,d1,d2];rw[hd];rfl
  have d2:(t.length:Int)≤60:=by omega
  rw[if_neg (by simp only[hne,h60,or_self,not_false_eq_true])]at hd;have HT:=rightText_ok a0 a1 m t (by omega);have n0:(0:Int)≤(k:Int):=by omega
  simp only[vcA,seval,vV,byP,byApp,byLen,bySeq,strMk,d1,d2,hk,tk];(with_reducible apply v_call);simp only[vcA,seval,vV,byP,byApp,byLen,bySeq,strMk];rfl;rfl;exact HD;exact km;simp only[vcA,seval,vV,byP,byApp,byLen,bySeq,strMk];rfl;generalize(Lib.decodeL (l.drop k)).1=R at hd hlow;generalize(Lib.decodeL (l.drop k)).2=Z at hd hlow hle hw h4;have w1:IntKind.i64.wrap ((k:Int)+1)=((k+1:Nat):Int):=by rw[wrap64 (by omega) (by omega)];omega
  by_cases r34:R=34
  ·rw[if_pos r34]at hd;have d3:(R:Int)=34:=by omega
   simp only[vcA,seval,vV,byP,byApp,byLen,bySeq,strMk,d3];(with_reducible apply v_call);simp only[vcA,seval,vV,byP,byApp,byLen,bySeq,strMk];rfl;rfl;exact HT;exact km;simp only[vcA,seval,vV,byP,byApp,byLen,bySeq,strMk];rfl;cases hr:z15 t
   ·rw[hr]at hd;simp only[vcA,seval,vV,byP,byApp,byLen,bySeq,strMk];rw[hd];rfl
   ·rw[hr]at hd;simp only[vcA,seval,vV,byP,byApp,byLen,bySeq,strMk,w1];rw[hd];rfl
  have d3:¬(R:Int)=34:=by omega
  rw[if_neg r34]at hd;by_cases r92:R=92
  ·rw[if_pos r92]at hd;have d4:(R:Int)=92:=by omega
   obtain rfl:Z=1:=hlow (by omega);rw[List.drop_drop]at hd;by_cases hend:k+1=l.length
   ·rw[List.drop_eq_nil_of_le (by omega)]at hd;have d5:((k+1:Nat):Int)=(l.length:Int):=by omega
    simp only[vcA,seval,vV,byP,byApp,byLen,bySeq,strMk,d4,w1,d5];rw[hd];rfl
   have d5:¬((k+1:Nat):Int)=(l.length:Int):=by omega
   obtain⟨c,ec⟩:∃c,l[k+1]?=some c:=⟨_,gE (by omega)⟩
   have hcons:l.drop (k+1)=c::l.drop (k+2):=by
    rw[List.drop_eq_getElem_cons (by omega)];congr 1;rw[gE (by omega)]at ec;exact Option.some.inj ec
   rw[hcons]at hd;simp only[]at hd;have w2:IntKind.i64.wrap (((k+1:Nat):Int)+((1:Nat):Int))=((k+2:Nat):Int):=by rw[wrap64 (by omega) (by omega)];omega
   have tk2:List.take (k+2-(k+1)) (c::l.drop (k+2))=[c]:=by rw[show k+2-(k+1)=1 by omega];rfl
   have g1:k+1≤k+2:=by omega
   have g2:k+2≤l.length:=by omega
   by_cases hc:c.toNat=34∨c.toNat=92
   ·rw[if_pos hc]at hd;by_cases c34:c.toNat=34
    ·have d6:(c.toNat:Int)=34:=by omega
     simp only[vcA,Nat.reduceLT,Int.reduceEq,Int.reduceAdd,Int.reduceSub,Nat.reduceBEq,Nat.reduceEqDiff,reduceCtorEq,Nat.reduceAdd,Nat.reduceSub,Nat.reduceMul,Nat.reduceLeDiff,Int.reduceToNat,Int.reduceLT,Int.reduceLE,Int.reduceNeg,reduceIte,vV,byP,byApp,byLen,bySeq,strMk,d4,w1,d5,ec,d6,w2,hcons,tk2,g1,g2];refine⟨⟨by omega,by omega⟩,z11 ⟨(k+2,t++[c],f'),g2,by show 1≤k+2;omega,by show(t++[c]).length≤70;simp;omega,by show l.length≤f'+(k+2);omega,hd⟩ (by show l.length-(k+2)<l.length-k;omega) ?_⟩;apply lw_of<;>simp[leL,lk,sv,Nat.beq,I,S,ES.kill,has,drp,nilT]
    ·have d6:¬(c.toNat:Int)=34:=by omega
     have d7:(c.toNat:Int)=92:=by omega
     simp only[vcA,Nat.reduceLT,Int.reduceEq,Int.reduceAdd,Int.reduceSub,Nat.reduceBEq,Nat.reduceEqDiff,reduceCtorEq,Nat.reduceAdd,Nat.reduceSub,Nat.reduceMul,Nat.reduceLeDiff,Int.reduceToNat,Int.reduceLT,Int.reduceLE,Int.reduceNeg,reduceIte,vV,byP,byApp,byLen,bySeq,strMk,d4,w1,d5,ec,d6,d7,w2,hcons,tk2,g1,g2];refine⟨⟨by omega,by omega⟩,z11 ⟨(k+2,t++[c],f'),g2,by show 1≤k+2;omega,by show(t++[c]).length≤70;simp;omega,by show l.length≤f'+(k+2);omega,hd⟩ (by show l.length-(k+2)<l.length-k;omega) ?_⟩;apply lw_of<;>simp[leL,lk,sv,Nat.beq,I,S,ES.kill,has,drp,nilT]
   ·rw[if_neg hc]at hd;have d6:¬(c.toNat:Int)=34:=by omega
    have d7:¬(c.toNat:Int)=92:=by omega
    simp only[vcA,seval,vV,byP,byApp,byLen,bySeq,strMk,d4,w1,d5,ec,d6,d7];rw[hd];rfl
  ·rw[if_neg r92,List.drop_drop]at hd;have d4:¬(R:Int)=92:=by omega
   have w2:IntKind.i64.wrap ((k:Int)+(Z:Int))=((k+Z:Nat):Int):=by rw[wrap64 (by omega) (by omega)];omega
   have tk2:List.take (k+Z-k) (l.drop k)=(l.drop k).take Z:=by rw[show k+Z-k=Z by omega]
   have g1:k≤k+Z:=by omega
   have g2:k+Z≤l.length:=by omega
   have hlen:((l.drop k).take Z).length=Z:=by rw[List.length_take,List.length_drop];omega
   generalize(l.drop k).take Z=u at*;simp only[vcA,seval,vV,byP,byApp,byLen,bySeq,strMk,d3,d4,w2,tk2,g1,g2,hlen];refine⟨⟨by omega,by omega⟩,z11 ⟨(k+Z,t++u,f'),g2,by show 1≤k+Z;omega,by show(t++u).length≤70;rw[List.length_append,hlen];omega,by show l.length≤f'+(k+Z);omega,hd⟩ (by show l.length-(k+Z)<l.length-k;omega) ?_⟩;apply lw_of<;>simp[leL,lk,sv,Nat.beq,I,S,ES.kill,has,drp,nilT,hlen]
 ·have d1:¬(k:Int)<(l.length:Int):=by omega
  rw[List.drop_eq_nil_of_le (by omega),quoGo_nil]at hd;simp only[vcA,seval,vV,byP,byApp,byLen,bySeq,strMk,d1];rw[hd];rfl
theorem numGo_le(neg:Bool)(lo hi:Int):∀(l:List UInt8) (n best:Int) (size k:Nat),(numGo neg lo hi l n best size k).2≤max size (k+l.length)
 |[],n,best,size,k=>by simp[numGo];omega
 |c::r,n,best,size,k=>by
  have h1:=numGo_le neg lo hi r (10*n+(c.toNat-48:Int)) (if neg then -(10*n+(c.toNat-48:Int))else 10*n+(c.toNat-48:Int)) (k+1) (k+1);have h2:=numGo_le neg lo hi r (10*n+(c.toNat-48:Int)) best size (k+1);rw[numGo];simp only[List.length_cons];by_cases q1:c.toNat<48∨57<c.toNat
  ·rw[if_pos q1];show size≤_;omega
  rw[if_neg q1];by_cases q2:1000000000000000<10*n+(c.toNat-48:Int)∨(neg=true∧10*n+(c.toNat-48:Int)=0)
  ·rw[if_pos q2];show size≤_;omega
  rw[if_neg q2];generalize(if neg then -(10*n+(c.toNat-48:Int))else 10*n+(c.toNat-48:Int))=v at*;by_cases q3:lo≤v∧v≤hi
  ·rw[if_pos q3];by_cases q4:10*n+(c.toNat-48:Int)=0
   ·rw[if_pos q4];show k+1≤_;omega
   ·rw[if_neg q4];omega
  ·rw[if_neg q3];by_cases q4:10*n+(c.toNat-48:Int)=0
   ·rw[if_pos q4];show size≤_;omega
   ·rw[if_neg q4];omega
theorem z39{l:List UInt8}(h:firstR l≠0):1≤l.length:=by
 cases l with
 |nil=>exact absurd rfl h
 |cons b t=>simp
theorem numV_le(lo hi:Int)(l:List UInt8):(numV lo hi l).2≤l.length:=by
 unfold numV;by_cases h:firstR l=45
 ·rw[if_pos h];have:=numGo_le true lo hi (l.drop 1) 0 0 0 1;have:=z39 (l:=l) (by omega);rw[List.length_drop]at*;omega
 ·rw[if_neg h];have:=numGo_le false lo hi l 0 0 0 0;omega
theorem quoGo_le:∀(f:Nat) (r t:List UInt8) (k:Nat),(quoGo f r t k).2≤k+r.length
 |0,r,t,k=>by simp[quoGo]
 |f+1,r,t,k=>by
  rw[quoGo];by_cases q1:r=[]∨60<t.length
  ·rw[if_pos q1];simp
  rw[if_neg q1];have hne:r≠[]:=fun h=>q1 (.inl h);have hle:=Lib.decodeL_le r hne;have hpos:0<r.length:=List.length_pos_iff.2 hne;by_cases q2:(Lib.decodeL r).1=34
  ·rw[if_pos q2];by_cases q3:z15 t=true
   ·rw[if_pos q3];show k+1≤_;omega
   ·rw[if_neg q3];simp
  rw[if_neg q2];by_cases q3:(Lib.decodeL r).1=92
  ·rw[if_pos q3];cases hr:r.drop 1 with
   |nil=>simp
   |cons c r'=>
    have hl:r.length=r'.length+2:=by
     have:=congrArg List.length hr;rw[List.length_drop,List.length_cons]at this;omega
    simp only[];by_cases q4:c.toNat=34∨c.toNat=92
    ·rw[if_pos q4];have:=quoGo_le f r' (t++[c]) (k+2);omega
    ·rw[if_neg q4];simp
  rw[if_neg q3];have:=quoGo_le f (r.drop (Lib.decodeL r).2) (t++r.take (Lib.decodeL r).2) (k+(Lib.decodeL r).2);rw[List.length_drop]at this;omega
def refV(l:List UInt8):Int×Nat:=if(numV (-20) 100000 (l.drop 1)).1=0 then(0,0)else((numV (-20) 100000 (l.drop 1)).1,(numV (-20) 100000 (l.drop 1)).2+1)
theorem reference_ok(a0 a1:Addr)(m:Nat)(l:List UInt8)(hl:l.length<1125899906842624)(h1:1≤l.length):SCalls Tryz.prog (gl a0 a1 m) 103 [S (str l)] [] (.tuple [I (refV l).1,I ((refV l).2:Int)]) []:=by
 refine z8 hmix tf_59 rfl ?_;have HN:=vnumber_ok a0 a1 m (l.drop 1) (-20) 100000 (by simp;omega);have hz:=numV_le (-20) 100000 (l.drop 1);unfold refV;rw[List.length_drop]at hz;have tk:List.take (l.length-1) (l.drop 1)=l.drop 1:=List.take_of_length_le (by simp);simp only[vcA,seval,vV,h1,tk];(with_reducible apply v_call);exact kv;rfl;exact HN;exact km;exact kv;generalize numV (-20) 100000 (l.drop 1)=q at*;have w1:IntKind.i64.wrap ((q.2:Int)+1)=((q.2+1:Nat):Int):=by rw[wrap64 (by omega) (by omega)];omega
 by_cases h0:q.1=0
 ·rw[if_pos h0];simp only[vcA,seval,vV,h0];all_goals rfl
 ·rw[if_neg h0];simp only[vcA,seval,vV,h0,w1]
def i32(r:Int):TV:=.pv (.v (.int .i32 r))
def sgnS(r:Int)(l:List UInt8):Int:=if l≠[]∧firstR l=r then 1 else 0
theorem mkSign_ok(g:Sh.Glob)(r:Int):SCalls Tryz.prog g 105 [i32 r] [] (.fn (.func 167) [] [.ptr 1000 0]) [.box [i32 r]]:=by
 refine z25 hmix tf_63 rfl rfl rfl ?_;simp only[vcA,seval,vV,i32]
theorem sign1_ok(a0 a1:Addr)(m:Nat)(l:List UInt8)(r:Int):SCalls Tryz.prog (gl a0 a1 m) 167 [S (str l),.ptr 1000 0] [.box [i32 r]] (.tuple [nv V.nil,I (sgnS r l)]) [.box [i32 r]]:=by
 refine z25 hmix tf_64 rfl rfl rfl ?_;have HF:=first_ok a0 a1 m l;have e0:(⟨#[]⟩:ByteArray)=str []:=rfl;unfold sgnS;cases l with
 |nil=>
  simp only[vcA,seval,vV,e0,i32,V.nil]
 |cons b t=>
  have hn:((b::t)==([]:List UInt8))=false:=rfl;simp only[vcA,seval,vV,e0,hn,i32,V.nil];(with_reducible apply v_call);exact kv;rfl;exact HF;exact km;exact kv;simp only[vcA,seval,vV];exact⟨fun h=>by rw[if_pos h];rfl,fun h=>by rw[if_neg h];rfl⟩
def partV(l:List UInt8):V×Nat:=
 if firstR l=34 then(.mk 2 0 (quoV l).1 [],(quoV l).2)
 else if firstR l=64 then(.mk 3 (refV l).1 [] [],(refV l).2)
 else if firstR l=126 then(.mk 4 (refV l).1 [] [],(refV l).2)
 else if firstR l=91 then(.mk 5 0 [] [],1)
 else if(numV (-1000000000000000) 1000000000000000 l).2=0 then(V.nil,if l≠[]∧firstR l=45 then 1 else 0)
 else(.mk 1 (numV (-1000000000000000) 1000000000000000 l).1 [] [],(numV (-1000000000000000) 1000000000000000 l).2)
theorem value_ok(a0 a1:Addr)(m:Nat)(l:List UInt8)(hl:l.length<1125899906842624):SCalls Tryz.prog (gl a0 a1 m) 53 [S (str l)] [] (.tuple [nv (partV l).1,I ((partV l).2:Int)]) []:=by
 have HF:=first_ok a0 a1 m l;refine z8 hmix tf_65 rfl ?_;unfold partV;by_cases f34:firstR l=34
 ·have HQ:=quoted_ok a0 a1 m l hl (z39 (by omega));rw[if_pos f34];simp only[vcA,seval,vV];(with_reducible apply v_call);exact kv;rfl;exact HF;exact km;exact kv;simp only[vcA,seval,vV,f34];(with_reducible apply v_call);exact kv;rfl;exact HQ;exact km;exact kv;simp only[vcA,seval,vV]
 rw[if_neg f34];by_cases f64:firstR l=64
 ·have HQ:=reference_ok a0 a1 m l hl (z39 (by omega));rw[if_pos f64];simp only[vcA,seval,vV];(with_reducible apply v_call);exact kv;rfl;exact HF;exact km;exact kv;simp only[vcA,seval,vV,f64];(with_reducible apply v_call);exact kv;rfl;exact HQ;exact km;exact kv;simp only[vcA,seval,vV];rfl
 rw[if_neg f64];by_cases f126:firstR l=126
 ·have HQ:=reference_ok a0 a1 m l hl (z39 (by omega));rw[if_pos f126];simp only[vcA,seval,vV];(with_reducible apply v_call);exact kv;rfl;exact HF;exact km;exact kv;simp only[vcA,seval,vV,f126];(with_reducible apply v_call);exact kv;rfl;exact HQ;exact km;exact kv;simp only[vcA,seval,vV];rfl
 rw[if_neg f126];by_cases f91:firstR l=91
 ·rw[if_pos f91];simp only[vcA,seval,vV];(with_reducible apply v_call);exact kv;rfl;exact HF;exact km;exact kv;simp only[vcA,seval,vV,f91];rfl
 rw[if_neg f91];have HN:=vnumber_ok a0 a1 m l (-1000000000000000) 1000000000000000 (by omega);generalize numV (-1000000000000000) 1000000000000000 l=q at*;by_cases h0:q.2=0
 ·have d0:(q.2:Int)=0:=by omega
  have HM:=mkSign_ok (gl a0 a1 m) 45;have HS:=sign1_ok a0 a1 m l 45;rw[if_pos h0];unfold i32 at HM HS;simp only[vcA,seval,vV];(with_reducible apply v_call);exact kv;rfl;exact HF;exact km;exact kv;simp only[vcA,seval,vV,f34,f64,f126,f91];(with_reducible apply v_call);exact kv;rfl;exact HN;exact km;exact kv;simp only[vcA,seval,vV,d0];(with_reducible apply v_call);exact kv;rfl;exact HM;exact km;exact kv;simp only[vcA,seval,vV];unfold nv V.nil at HS;have hsg:sgnS 45 l=((if ¬l=[]∧firstR l=45 then 1 else 0:Nat):Int):=by unfold sgnS;split<;>rfl
  rw[hsg]at HS;(with_reducible apply z41);exact kv;exact HS;rfl;exact kv;simp only[vcA,seval,vV];rfl
 ·have d0:¬(q.2:Int)=0:=by omega
  rw[if_neg h0];simp only[vcA,seval,vV];(with_reducible apply v_call);exact kv;rfl;exact HF;exact km;exact kv;simp only[vcA,seval,vV,f34,f64,f126,f91];(with_reducible apply v_call);exact kv;rfl;exact HN;exact km;exact kv;simp only[vcA,seval,vV,d0];rfl
theorem reader_ok(g:Sh.Glob)(l:List UInt8)(a:Int):SCalls Tryz.prog g 52 [S (str l),I a] [] (.fn (.func 100) [] [.ptr 1000 0,.ptr 1001 0]) [.box [S (str l)],.box [I a]]:=by
 refine z25 hmix tf_57 rfl rfl rfl ?_;simp only[vcA,seval,vV]
theorem partV_le(l:List UInt8):(partV l).2≤l.length:=by
 have href:1≤l.length→(refV l).2≤l.length:=by
  intro h1;have:=numV_le (-20) 100000 (l.drop 1);rw[List.length_drop]at this;unfold refV;split
  ·simp
  ·show _+1≤_;omega
 unfold partV;by_cases f34:firstR l=34
 ·rw[if_pos f34];have h1:=z39 (l:=l) (by omega);have:=quoGo_le l.length (l.drop 1) [] 1;rw[List.length_drop]at this;show(quoV l).2≤_;unfold quoV;omega
 rw[if_neg f34];by_cases f64:firstR l=64
 ·rw[if_pos f64];exact href (z39 (by omega))
 rw[if_neg f64];by_cases f126:firstR l=126
 ·rw[if_pos f126];exact href (z39 (by omega))
 rw[if_neg f126];by_cases f91:firstR l=91
 ·rw[if_pos f91];exact z39 (by omega)
 rw[if_neg f91];have hn:=numV_le (-1000000000000000) 1000000000000000 l;by_cases h0:(numV (-1000000000000000) 1000000000000000 l).2=0
 ·rw[if_pos h0];show(if l≠[]∧firstR l=45 then 1 else 0)≤l.length;split
  ·rename_i h;exact z39 (by omega)
  ·simp
 ·rw[if_neg h0];exact hn
theorem takeV_ok(a0 a1:Addr)(m:Nat)(l:List UInt8)(a:Nat)(hl:l.length<1125899906842624)(ha:a≤l.length):
  SCalls Tryz.prog (gl a0 a1 m) 100 [.pv (.v (.func (.func 53) #[] #[])),.ptr 1000 0,.ptr 1001 0] [.box [S (str l)],.box [I (a:Int)]]
   (.tuple [nv (partV (l.drop a)).1,I ((a+(partV (l.drop a)).2:Nat):Int),.pv (.v (.bool (decide (0<((partV (l.drop a)).2:Int)))))]) [.box [S (str l)],.box [I ((a+(partV (l.drop a)).2:Nat):Int)]]:=by
 have HV:=value_ok a0 a1 m (l.drop a) (by rw[List.length_drop];omega);have hle:=partV_le (l.drop a);rw[List.length_drop]at hle;generalize partV (l.drop a)=q at*;have tk:List.take (l.length-a) (l.drop a)=l.drop a:=List.take_of_length_le (by simp);have w1:IntKind.i64.wrap ((a:Int)+(q.2:Int))=((a+q.2:Nat):Int):=by rw[wrap64 (by omega) (by omega)];omega
 refine z25 hmix tf_58 rfl rfl rfl ?_;simp only[vcA,seval,vV,ha,tk];(with_reducible apply z41);exact kv;exact HV;rfl;exact kv;simp only[vcA,seval,vV,w1]
theorem takeS_ok(a0 a1:Addr)(m:Nat)(l:List UInt8)(a:Nat)(r:Int)(hl:l.length<1125899906842624)(ha:a≤l.length):
  SCalls Tryz.prog (gl a0 a1 m) 100 [.fn (.func 167) [] [.ptr 1000 0],.ptr 1001 0,.ptr 1002 0] [.box [i32 r],.box [S (str l)],.box [I (a:Int)]]
   (.tuple [nv V.nil,I ((a:Int)+sgnS r (l.drop a)),.pv (.v (.bool (decide (0<sgnS r (l.drop a)))))]) [.box [i32 r],.box [S (str l)],.box [I ((a:Int)+sgnS r (l.drop a))]]:=by
 have HV:=sign1_ok a0 a1 m (l.drop a) r;have hle:0≤sgnS r (l.drop a)∧sgnS r (l.drop a)≤1:=by unfold sgnS;split<;>decide
 generalize sgnS r (l.drop a)=q at*;have tk:List.take (l.length-a) (l.drop a)=l.drop a:=List.take_of_length_le (by simp);have w1:IntKind.i64.wrap ((a:Int)+q)=(a:Int)+q:=wrap64 (by omega) (by omega);refine z25 hmix tf_58 rfl rfl rfl ?_;simp only[vcA,seval,vV,ha,tk,i32];(with_reducible apply z41);simp only[vcA,seval,vV,i32,V.nil];rfl;exact HV;rfl;simp only[vcA,seval,vV,i32,V.nil];rfl;simp only[vcA,seval,vV,w1,V.nil,i32]
end Go.Proofs.YtcpaleaajdilgaaGreatDoor
end

section
namespace Go.Proofs.YtcpaleaajdilgaaGreatDoor
open Go Go.Mor
def NoDigit(l:List UInt8):Prop:=∀c r,l=c::r→c.toNat<48∨57<c.toNat
theorem numGo_end(neg:Bool)(lo hi:Int){l:List UInt8}(h:NoDigit l)(n best:Int)(size k:Nat):numGo neg lo hi l n best size k=(best,size):=by
 cases l with
 |nil=>rfl
 |cons c r=>rw[numGo,if_pos (h c r rfl)]
def sv_(neg:Bool)(n:Int):Int:=if neg then -n else n
theorem numGo_step(neg:Bool)(lo hi:Int)(d:Nat)(hd:d<10)(r:List UInt8)(n best:Int)(size k:Nat)(h0:0≤n)(hx0:0<10*n+d)(hx1:10*n+d≤1000000000000000):
  ∃b s,numGo neg lo hi (UInt8.ofNat (48+d)::r) n best size k=numGo neg lo hi r (10*n+d) b s (k+1)∧(lo≤sv_ neg (10*n+d)→sv_ neg (10*n+d)≤hi→b=sv_ neg (10*n+d)∧s=k+1):=by
 have hc:(UInt8.ofNat (48+d)).toNat=48+d:=by rw[UInt8.toNat_ofNat'];omega
 have hx:10*n+((UInt8.ofNat (48+d)).toNat-48:Int)=10*n+d:=by rw[hc];omega
 rw[numGo,hx,if_neg (by rw[hc];omega),if_neg (by omega)];have hv:(if neg then -(10*n+(d:Int))else 10*n+d)=sv_ neg (10*n+d):=rfl;rw[hv];by_cases q:lo≤sv_ neg (10*n+d)∧sv_ neg (10*n+d)≤hi
 ·rw[if_pos q,if_neg (by omega)];exact⟨_,_,rfl,fun _ _=>⟨rfl,rfl⟩⟩
 ·rw[if_neg q,if_neg (by omega)];exact⟨_,_,rfl,fun h1 h2=>absurd ⟨h1,h2⟩ q⟩
theorem numGo_digits(neg:Bool)(lo hi:Int):∀(m:Nat),0<m→m≤1000000000000000→∀(r:List UInt8) (best:Int) (size k:Nat),
  ∃b s,numGo neg lo hi (Lib.decDigits m++r) 0 best size k=numGo neg lo hi r m b s (k+(Lib.decDigits m).length)∧(lo≤sv_ neg m→sv_ neg m≤hi→b=sv_ neg m∧s=k+(Lib.decDigits m).length):=by
 intro m
 induction m using Nat.strongRecOn with
 |_ m ih=>
  intro h0 h1 r best size k;by_cases hm:m<10
  ·rw[Lib.decDigits_one hm];obtain⟨b,s,e,hb⟩:=numGo_step neg lo hi m hm r 0 best size k (by omega) (by omega) (by omega);refine⟨b,s,?_,?_⟩
   ·simpa using e
   ·simpa using hb
  ·have e0:Lib.decDigits m=Lib.decDigits (m / 10)++[UInt8.ofNat (48+m%10)]:=by rw[Lib.decDigits,dif_neg hm]
   obtain⟨b1,s1,e1,_⟩:=ih (m / 10) (by omega) (by omega) (by omega) (UInt8.ofNat (48+m%10)::r) best size k;have hmm:10*((m / 10:Nat):Int)+((m%10:Nat):Int)=(m:Int):=by omega
   obtain⟨b,s,e2,hb⟩:=numGo_step neg lo hi (m%10) (by omega) r ((m / 10:Nat):Int) b1 s1 (k+(Lib.decDigits (m / 10)).length) (by omega) (by rw[hmm];omega) (by rw[hmm];omega);rw[hmm]at e2 hb;have hlen:k+(Lib.decDigits m).length=k+(Lib.decDigits (m / 10)).length+1:=by rw[e0];simp;omega
   refine⟨b,s,?_,?_⟩
   ·rw[hlen,←e2,←e1,e0];simp
   ·rw[hlen];exact hb
theorem z124(m:Nat):∃c r,Lib.decDigits m=c::r∧48≤c.toNat∧c.toNat≤57:=by
 induction m using Nat.strongRecOn with
 |_ m ih=>
  by_cases hm:m<10
  ·refine⟨UInt8.ofNat (48+m),[],Lib.decDigits_one hm,?_⟩;rw[UInt8.toNat_ofNat'];omega
  ·obtain⟨c,r,h1,h2⟩:=ih (m / 10) (by omega);exact⟨c,r++[UInt8.ofNat (48+m%10)],by rw[Lib.decDigits,dif_neg hm,h1];rfl,h2⟩
theorem z43{b:UInt8}{t:List UInt8}(h:b.toNat<128):firstR (b::t)=b.toNat:=by
 unfold firstR;rw[if_neg (by simp),decodeGo_L (by simp),Lib.decodeL_ascii b t h]
theorem numV_itoa{lo hi n:Int}(h1:lo≤n)(h2:n≤hi)(ha: -1000000000000000≤n)(hb:n≤1000000000000000){r:List UInt8}(hr:NoDigit r):numV lo hi (Lib.itoa n++r)=(n,(Lib.itoa n).length):=by
 unfold Lib.itoa;by_cases hn:n<0
 ·rw[if_pos hn];unfold numV;rw[List.cons_append,if_pos (by rw[z43 (by decide)];rfl)];obtain⟨b,s,e,hbs⟩:=numGo_digits true lo hi n.natAbs (by omega) (by omega) r 0 0 1;have hv:sv_ true (n.natAbs:Int)=n:=by show -(n.natAbs:Int)=n;omega
  rw[hv]at hbs;obtain⟨eb,es⟩:=hbs h1 h2;rw[show(45::(Lib.decDigits n.natAbs++r)).drop 1=Lib.decDigits n.natAbs++r from rfl,e,numGo_end _ _ _ hr,eb,es,List.length_cons,Nat.add_comm]
 ·rw[if_neg hn];obtain⟨c,t,hc,hc1,hc2⟩:=z124 n.toNat;unfold numV;rw[if_neg (by rw[hc,List.cons_append,z43 (by omega)];omega)];by_cases hz:n=0
  ·subst hz;rw[show(0:Int).toNat=0 from rfl,Lib.decDigits_one (by decide),List.singleton_append,numGo];simp[UInt8.toNat_ofNat'];omega
  ·obtain⟨b,s,e,hbs⟩:=numGo_digits false lo hi n.toNat (by omega) (by omega) r 0 0 0;have hv:sv_ false (n.toNat:Int)=n:=by show(n.toNat:Int)=n;omega
   rw[hv]at hbs;obtain⟨eb,es⟩:=hbs h1 h2;rw[e,numGo_end _ _ _ hr,eb,es,Nat.zero_add]
end Go.Proofs.YtcpaleaajdilgaaGreatDoor
end

section
namespace Go.Proofs.YtcpaleaajdilgaaGreatDoor
open Go
def qs(s:List UInt8):List UInt8:=s.flatMap fun b=>if b.toNat=34∨b.toNat=92 then [92,b] else [b]
theorem qs_hi:∀{s:List UInt8},(∀b∈s,128≤b.toNat)→qs s=s
 |[],_=>rfl
 |b::s,h=>by
  have hb:=h b (by simp);have ih:=qs_hi (s:=s) (fun c hc=>h c (by simp[hc]));unfold qs at ih ⊢;rw[List.flatMap_cons,if_neg (by omega),ih];rfl
theorem qs_app(a c:List UInt8):qs (a++c)=qs a++qs c:=by simp[qs]
theorem qs_len(s:List UInt8):(qs s).length≤2*s.length:=by
 unfold qs
 induction s with
 |nil=>simp
 |cons b s ih=>rw[List.flatMap_cons,List.length_append,List.length_cons];split<;>simp only[List.length_cons,List.length_nil]<;>omega
end Go.Proofs.YtcpaleaajdilgaaGreatDoor
end

section
namespace Go.Proofs.YtcpaleaajdilgaaGreatDoor
open Go Go.Mor
set_option maxHeartbeats 4000000
theorem signN_same{n n' b0 b1 b2 b3 c1 c2 c3 w:Nat}(h:signN n b0 b1 b2 b3=w)(hw:w≠0)(hn:w≤n')(h1:2≤w→c1=b1)(h2:3≤w→c2=b2)(h3:4≤w→c3=b3):signN n' b0 c1 c2 c3=w:=by
 have key:w=1∨w=2∨w=3∨w=4:=by unfold signN at h;(repeat' split at h)<;>omega
 rcases key with rfl|rfl|rfl|rfl
 ·unfold signN at h ⊢;(repeat' split at h)<;>(repeat' split)<;>omega
 ·rw[h1 (by decide)];unfold signN at h ⊢;(repeat' split at h)<;>(repeat' split)<;>omega
 ·rw[h1 (by decide),h2 (by decide)];unfold signN at h ⊢;(repeat' split at h)<;>(repeat' split)<;>omega
 ·rw[h1 (by decide),h2 (by decide),h3 (by decide)];unfold signN at h ⊢;(repeat' split at h)<;>(repeat' split)<;>omega
theorem signN_hi{n b0 b1 b2 b3 w:Nat}(h:signN n b0 b1 b2 b3=w)(hw:2≤w):128≤b0∧128≤b1∧(3≤w→128≤b2)∧(4≤w→128≤b3)∧w≤n∧w≤4:=by
 unfold signN at h
 (repeat' split at h)<;>refine⟨?_,?_,?_,?_,?_,?_⟩<;>omega
theorem signL_width{l:List UInt8}(h:signL l≠0):(Lib.decodeL l).2=signL l∧l≠[]:=by
 cases l with
 |nil=>exact absurd rfl h
 |cons b t=>
  rw[signL_decode]at h ⊢;split at h
  ·exact absurd rfl h
  ·rename_i hc;rw[if_neg hc];exact⟨rfl,by simp⟩
theorem long_sign{s:List UInt8}{w:Nat}(h:signL s=w)(hw:2≤w)(X:List UInt8):w≤s.length∧(∀b∈s.take w,128≤b.toNat)∧signL (s.take w++X)=w:=by
 have hne:s≠[]:=by rintro rfl;simp[signL]at h;omega
 unfold signL at h;rw[if_neg hne]at h;obtain⟨q0,q1,q2,q3,q4,q5⟩:=signN_hi h hw;refine⟨q4,fun b hb=> ?_,?_⟩
 ·obtain⟨i,hi⟩:=List.getElem?_of_mem hb;have hi1:i<(s.take w).length:=(gJ hi).1;rw[List.length_take]at hi1;rw[List.getElem?_take_of_lt (by omega)]at hi;have hg:s.getD i 0=b:=by rw[List.getD_eq_getElem?_getD,hi];rfl
  rw[←hg];have h4:i=0∨i=1∨i=2∨i=3:=by omega
  rcases h4 with rfl|rfl|rfl|rfl
  ·exact q0
  ·exact q1
  ·exact q2 (by omega)
  ·exact q3 (by omega)
 ·have hlen:(s.take w++X).length=w+X.length:=by rw[List.length_append,List.length_take];omega
  have hne':s.take w++X≠[]:=by intro h0;have:=congrArg List.length h0;rw[hlen]at this;simp at this;omega
  have hg:∀i,i<w→(s.take w++X).getD i 0=s.getD i 0:=by
   intro i hi;rw[List.getD_eq_getElem?_getD,List.getD_eq_getElem?_getD,List.getElem?_append_left (by rw[List.length_take];omega),List.getElem?_take_of_lt hi]
  unfold signL;rw[if_neg hne',hg 0 (by omega)];exact signN_same h (by omega) (by rw[hlen];omega) (fun h2=>by rw[hg 1 (by omega)]) (fun h2=>by rw[hg 2 (by omega)]) (fun h2=>by rw[hg 3 (by omega)])
theorem decode_hi{b:UInt8}{t:List UInt8}(h:128≤b.toNat):128≤(Lib.decodeL (b::t)).1:=by
 rw[Lib.decodeL_N];exact(rune_lo _ _ _ _ _).2 (by simpa using h)
theorem quoGo_qs(post:List UInt8):∀(N:Nat) (s t:List UInt8) (k f:Nat),s.length≤N→isText s=true→t.length+s.length≤60→z15 (t++s)=true→(qs s).length<f→
  quoGo f (qs s++34::post) t k=(t++s,k+(qs s).length+1):=by
 intro N
 induction N with
 |zero=>
  intro s t k f hN hT h60 hR hf;have:s=[]:=List.eq_nil_of_length_eq_zero (by omega);subst this;obtain⟨f',rfl⟩:∃f',f=f'+1:=⟨f-1,by omega⟩
  rw[List.append_nil]at hR ⊢;rw[show qs []=[] from rfl,List.nil_append,quoGo,if_neg (by simp;simp at h60;omega),Lib.decodeL_ascii 34 post (by decide)];simp[hR]
 |succ N ih=>
  intro s t k f hN hT h60 hR hf;obtain⟨f',rfl⟩:∃f',f=f'+1:=⟨f-1,by omega⟩
  cases s with
  |nil=>exact ih [] t k (f'+1) (by simp) hT h60 hR hf
  |cons b r0=>
   rw[isText_cons]at hT;simp only[Bool.and_eq_true,Bool.not_eq_true',beq_eq_false_iff_ne]at hT;obtain⟨⟨⟨t1,t2⟩,t3⟩,t4⟩:=hT;rw[List.length_cons]at hN h60;by_cases hb:b.toNat<128
   ·have hw:signL (b::r0)=1:=by
     unfold signL signN;rw[if_neg (by simp),if_pos (by simpa using hb)]
    rw[hw,List.drop_one,List.tail_cons]at t4;have hR':z15 (t++[b]++r0)=true:=by rw[List.append_assoc];exact hR
    by_cases he:b.toNat=34∨b.toNat=92
    ·have hq:qs (b::r0)=92::b::qs r0:=by unfold qs;rw[List.flatMap_cons,if_pos he];rfl
     rw[hq]at hf ⊢;simp only[List.length_cons]at hf;rw[List.cons_append,quoGo,if_neg (by simp;omega),Lib.decodeL_ascii 92 _ (by decide)];simp only[List.cons_append,List.drop_one,List.tail_cons];rw[if_neg (by decide),if_pos (by decide),if_pos he,ih r0 (t++[b]) (k+2) f' (by omega) t4 (by simp;omega) hR' (by omega)];simp;omega
    ·have hq:qs (b::r0)=b::qs r0:=by unfold qs;rw[List.flatMap_cons,if_neg he];rfl
     rw[hq]at hf ⊢;simp only[List.length_cons]at hf;rw[List.cons_append,quoGo,if_neg (by simp;omega),Lib.decodeL_ascii b _ hb];simp only[List.drop_one,List.tail_cons,List.take_succ_cons,List.take_zero];rw[if_neg (fun h=>he (.inl h)),if_neg (fun h=>he (.inr h)),ih r0 (t++[b]) (k+1) f' (by omega) t4 (by simp;omega) hR' (by omega)];simp;omega
   ·generalize hW:signL (b::r0)=w at*;have hw2:2≤w:=by
     unfold signL signN at hW;rw[if_neg (by simp),if_neg (by simpa using hb)]at hW
     (repeat' split at hW)<;>omega
    obtain⟨g1,g2,g3⟩:=long_sign hW hw2 (qs ((b::r0).drop w)++34::post);have hq:qs (b::r0)=(b::r0).take w++qs ((b::r0).drop w):=by
     conv=>lhs;rw[←List.take_append_drop w (b::r0)]
     rw[qs_app,qs_hi g2]
    obtain⟨d1,d2⟩:=signL_width (l:=(b::r0).take w++(qs ((b::r0).drop w)++34::post)) (by rw[g3];omega);rw[g3]at d1;have htl:((b::r0).take w).length=w:=by rw[List.length_take];omega
    rw[hq,List.length_append,htl]at hf ⊢;rw[List.append_assoc,quoGo,if_neg (by simp only[d2,false_or];omega),d1];have hrune:128≤(Lib.decodeL ((b::r0).take w++(qs ((b::r0).drop w)++34::post))).1:=by
     obtain⟨w',rfl⟩:∃w',w=w'+1:=⟨w-1,by omega⟩
     rw[List.take_succ_cons,List.cons_append];exact decode_hi (by omega)
    rw[if_neg (by omega),if_neg (by omega),List.drop_append_of_le_length (by omega),List.drop_eq_nil_of_le (by omega:((b::r0).take w).length≤w),List.nil_append,
     List.take_append_of_le_length (by omega),List.take_of_length_le (by omega:((b::r0).take w).length≤w)]
    have hR':z15 (t++(b::r0).take w++(b::r0).drop w)=true:=by rw[List.append_assoc,List.take_append_drop];exact hR
    have hdl:((b::r0).drop w).length=r0.length+1-w:=by rw[List.length_drop,List.length_cons]
    rw[ih ((b::r0).drop w) (t++(b::r0).take w) (k+w) f' (by omega) t4 (by rw[List.length_append,htl,hdl];rw[List.length_cons]at g1;omega) hR' (by omega)];rw[List.append_assoc,List.take_append_drop];congr 1;omega
end Go.Proofs.YtcpaleaajdilgaaGreatDoor
end

section
namespace Go.Proofs.YtcpaleaajdilgaaGreatDoor
open Go Go.RowKit Go.Mor Go.Sh Go.Sh.Cd1
set_option maxRecDepth 100000
set_option maxHeartbeats 2000000
theorem dVal1_at{s:List UInt8}{a b:Int}{v:V}(hs:SmallS s)(h:dVal1 s a=.ok (v,b)):I64 b∧v.l=[]:=by
 unfold dVal1 at h;cases hk:dNum s a 0 4 with
 |error e=>rw[hk]at h;cases h
 |ok q=>
  obtain⟨k,c⟩:=q;rw[hk]at h;have hc:=(dNum_pos hs hk).1;simp only[dRest]at h;by_cases e1:k=1
  ·rw[if_pos e1]at h;cases hn:dNum s c (-1000000000000000) 1000000000000000 with
   |error e=>rw[hn]at h;cases h
   |ok q=>obtain⟨n,c'⟩:=q;rw[hn]at h;cases h;exact⟨(dNum_pos hs hn).1,rfl⟩
  rw[if_neg e1]at h;by_cases e2:k=2
  ·rw[if_pos e2]at h;cases hn:dText s c with
   |error e=>rw[hn]at h;cases h
   |ok q=>
    obtain⟨n,c'⟩:=q;rw[hn]at h;cases h;unfold dText at hn;cases hr:z29 s c with
    |none=>rw[hr]at hn;cases hn
    |some q=>
     obtain⟨t',b'⟩:=q;rw[hr]at hn;have hb:=z126 hr;simp only[]at hn;by_cases hh:z15 t'=true
     ·rw[if_pos hh]at hn;cases hn;unfold SmallS at hs;refine⟨by unfold I64;omega,rfl⟩
     ·rw[if_neg hh]at hn;cases hn
  rw[if_neg e2]at h;by_cases e3:k=3∨k=4
  ·rw[if_pos e3]at h;cases hn:dNum s c (-20) 100000 with
   |error e=>rw[hn]at h;cases h
   |ok q=>
    obtain⟨n,c'⟩:=q;rw[hn]at h;simp only[]at h;by_cases hz:n=0
    ·rw[if_pos hz]at h;cases h
    ·rw[if_neg hz]at h;cases h;exact⟨(dNum_pos hs hn).1,rfl⟩
  rw[if_neg e3]at h;cases h;exact⟨hc,rfl⟩
theorem val4_ok(a0 a1:Addr)(m:Nat)(s:List UInt8)(a:Int)(hs:SmallS s)(ha:I64 a){v:V}{b:Int}(h:dVal1 s a=.ok (v,b)):
  SCalls Tryz.prog (gl a0 a1 m) 50 [.ptr 1000 0,I 4] [dec s a] (.tuple [nv v,I 0]) [dec s b]:=by
 unfold dVal1 at h;cases hk:dNum s a 0 4 with
 |error e=>rw[hk]at h;cases h
 |ok q=>
  obtain⟨k,c⟩:=q;rw[hk]at h;exact value1_ok a0 a1 m s a 4 hs ha hk (by have:=(dNum_inv hk).2;omega) h
theorem pwk_rowV(l:List V)(v:V)(hv:v.l=[]):PWk (.sl 4 (V.rows l++[[.v (.int .i64 v.k),.v (.int .i64 v.n),.v (.string (str v.s)),.v (.slice none 0 0)]])) (.sl 4 (V.rows (l++[v]))):=by
 rw[rowsApp,rowNil hv];refine pwk_last rfl (fun j c d h1 h2=> ?_)
 match j with
 |0=>simp at h1 h2;subst h1;subst h2;exact .refl _
 |1=>simp at h1 h2;subst h1;subst h2;exact .refl _
 |2=>simp at h1 h2;subst h1;subst h2;exact .refl _
 |3=>simp at h1 h2;subst h1;subst h2;exact pwk_nil 4
 |j+4=>simp at h1
theorem items_ok(a0 a1:Addr)(m:Nat)(s:List UInt8)(a:Int)(hs:SmallS s)(ha:I64 a){l:List V}{c:Int}(h:dItems s a=.ok (l,c)):
  SCalls Tryz.prog (gl a0 a1 m) 96 [.ptr 1000 0] [dec s a] (.tuple [.pv (.sl 4 (V.rows l)),I 0]) [dec s c]:=by
 unfold dItems at h;cases hk:dNum s a 0 12 with
 |error e=>rw[hk]at h;cases h
 |ok q=>
  obtain⟨n,b⟩:=q;rw[hk]at h;simp only[]at h;have HK:=number_ok a0 a1 m s a 0 12 hs ha hk;have hb:=(dNum_pos hs hk).1;have hn:=(dNum_inv hk).2;obtain⟨N,rfl⟩:∃N:Nat,n=N:=⟨n.toNat,by omega⟩
  rw[Int.toNat_natCast]at h;have hm:maxLen=9223372036854775807:=rfl;refine z25 hmix tf_2 rfl rfl rfl ?_;unfold dec at HK ⊢;simp only[vcA,seval,vV];(with_reducible apply v_call);exact kv;rfl;exact HK;exact km;exact kv;simp only[vcA,seval,vV];refine v_loop (σ:={ q:Nat×Int×List V // q.1≤N∧q.2.2.length=q.1∧I64 q.2.1∧dLoop s (N-q.1) q.2.1 q.2.2=.ok (l,c) })
   (fun q=>⟨[(0,.ptr 1000 0),(6,.own 3000 4 (V.rows q.1.2.2)),(17,I (N:Int)),(18,I (q.1.1:Int))],[(1000,[S (str s),I q.1.2.1])],[(3000,(37,4,q.1.1))],[]⟩)
   (fun q=>N-q.1.1) ⟨(0,b,[]),Nat.zero_le _,rfl,hb,h⟩ ?_ ?_
  ·refine ES.Lw.trans ?_ (adT_lw (k:=6) (d:=3000) (e:=37) (W:=4) (.inr (by decide)) rfl);exact lw_eq rfl
  rintro⟨⟨i,a',l'⟩,hi,hl,ha',hd⟩;simp only at hi hl ha' hd;simp only[vcA,seval,vV];refine⟨fun hlt=> ?_,fun hge=> ?_⟩
  ·obtain⟨r,hr⟩:∃r,N-i=r+1:=⟨N-i-1,by omega⟩
   have hr':N-(i+1)=r:=by omega
   rw[hr]at hd;simp only[dLoop]at hd;rw[←hr']at hd;cases hv:dVal1 s a' with
   |error e=>rw[hv]at hd;cases hd
   |ok q=>
   obtain⟨v,b'⟩:=q
   ·have HV:=val4_ok a0 a1 m s a' hs ha' hv;obtain⟨hb',hvl⟩:=dVal1_at hs hv;unfold dec at HV;(with_reducible apply v_call);exact kv;rfl;exact HV;exact km;exact kv;simp only[vcA,seval,vV,hl];refine⟨⟨by omega,by omega⟩,?_⟩;refine z11 ⟨(i+1,b',l'++[v]),by show i+1≤N;omega,by simp[hl],hb',by rw[hv]at hd;exact hd⟩ (by show N-(i+1)<N-i;omega) ?_;have w1:IntKind.i64.wrap ((i:Int)+1)=(i:Int)+1:=wrap64 (by omega) (by omega);refine ES.Lw.trans ?_ (reT_lw (k:=6) (y:=.own 3000 4 (V.rows (l'++[v]))) rfl (wk_own (by simp[rowsLen]) (pwk_rowV l' v hvl)));apply lw_of<;>simp[leL,lk,sv,Nat.beq,I,S,ES.kill,has,drp,nilT,w1]
  ·obtain rfl:i=N:=by omega
   rw[Nat.sub_self]at hd;cases hd;rfl
end Go.Proofs.YtcpaleaajdilgaaGreatDoor
end

section
namespace Go.Proofs.YtcpaleaajdilgaaGreatDoor
open Go Go.RowKit Go.Mor Go.Sh Go.Sh.Cd1
set_option maxRecDepth 100000
set_option maxHeartbeats 4000000
theorem partV_l(l:List UInt8):(partV l).1.l=[]:=by
 unfold partV;(repeat' split)<;>rfl
def nextA(l:List UInt8)(a:Nat)(acc:List V):Option Nat:=if acc=[] then some a else if sgnS 32 (l.drop a)=1 then some (a+1)else none
def z49(l:List UInt8):Nat→Nat→List V→Option (List V×Nat)
 |0,_,_=>none
 |n+1,a,acc=>if sgnS 93 (l.drop a)=1 then some (acc,a+1)else match nextA l a acc with
  |none=>none
  |some a'=>if(partV (l.drop a')).2=0∨(partV (l.drop a')).1.k=5∨acc.length=12 then none
   else z49 l n (a'+(partV (l.drop a')).2) (acc++[(partV (l.drop a')).1])
theorem ritems_ok(a0 a1:Addr)(m:Nat)(l:List UInt8)(a:Nat)(hl:l.length<1125899906842624)(ha:a≤l.length){r:List V}{p:Nat}(h:z49 l 13 a []=some (r,p)):
  SCalls Tryz.prog (gl a0 a1 m) 54 [.fn (.func 100) [] [.ptr 1000 0,.ptr 1001 0]] [.box [S (str l)],.box [I (a:Int)]] (.tuple [.pv (.sl 4 (V.rows r)),I (p:Int),.pv (.v (.bool true))]) [.box [S (str l)],.box [I (p:Int)]]:=by
 have hm:maxLen=9223372036854775807:=rfl;refine z25 hmix tf_49 rfl rfl rfl ?_;simp only[vcA,seval,vV];refine v_loop (σ:={ q:Nat×Nat×List V // q.2.1≤l.length∧q.2.2.length+q.1=13∧z49 l q.1 q.2.1 q.2.2=some (r,p) })
  (fun q=>⟨[(0,.fn (.func 100) [] [.ptr 1000 0,.ptr 1001 0]),(5,.own 3000 4 (V.rows q.1.2.2))],[(1000,[S (str l)]),(1001,[I (q.1.2.1:Int)])],[(3000,(37,4,q.1.2.2.length))],[]⟩)
  (fun q=>q.1.1) ⟨(13,a,[]),ha,rfl,h⟩ ?_ ?_
 ·refine ES.Lw.trans ?_ (adT_lw (k:=5) (d:=3000) (e:=37) (W:=4) (.inr (by decide)) rfl);exact lw_eq rfl
 rintro⟨⟨n,a,acc⟩,ha,hn,hd⟩;simp only at ha hn hd;cases n with
 |zero=>simp[z49]at hd
 |succ n=>
 rw[z49]at hd;have M93:=mkSign_ok (gl a0 a1 m) 93;have M32:=mkSign_ok (gl a0 a1 m) 32;have T93:=takeS_ok a0 a1 m l a 93 hl ha;have T32:=takeS_ok a0 a1 m l a 32 hl ha;have b93:sgnS 93 (l.drop a)=0∨sgnS 93 (l.drop a)=1:=by unfold sgnS;split<;>simp
 have b32:sgnS 32 (l.drop a)=0∨sgnS 32 (l.drop a)=1:=by unfold sgnS;split<;>simp
 simp only[vcA,seval,vV];(with_reducible apply v_call);simp only[vcA,seval,vV,i32];rfl;rfl;exact M93;exact km;simp only[vcA,seval,vV,i32];rfl;by_cases h93:sgnS 93 (l.drop a)=1
 ·rw[if_pos h93]at hd;cases hd;rw[h93]at T93;(with_reducible apply z41);simp only[vcA,seval,vV,i32,V.nil];rfl;exact T93;rfl;simp only[vcA,seval,vV,i32,V.nil];rfl;simp only[vcA,seval,vV];rfl
 ·have z93:sgnS 93 (l.drop a)=0:=by omega
  rw[if_neg h93]at hd;rw[z93,Int.add_zero]at T93;(with_reducible apply z41);simp only[vcA,seval,vV,i32,V.nil];rfl;exact T93;rfl;simp only[vcA,seval,vV,i32,V.nil];rfl;unfold nextA at hd;by_cases hacc:acc=[]
  ·rw[if_pos hacc]at hd;simp only[]at hd;have hal:acc.length=0:=by rw[hacc];rfl
   have d0:¬(0:Int)<(acc.length:Int):=by omega
   simp only[vcA,seval,vV,d0];have HV:=takeV_ok a0 a1 m l a hl ha;have hvl:=partV_l (l.drop (a));have hple:=partV_le (l.drop (a));rw[List.length_drop]at hple;generalize partV (l.drop (a))=q at*;by_cases hbad:q.2=0∨q.1.k=5∨acc.length=12
   ·rw[if_pos hbad]at hd;cases hd
   rw[if_neg hbad]at hd;have d1:(0:Int)<(q.2:Int):=by omega
   have d2:¬q.1.k=5:=by omega
   have d3:¬(acc.length:Int)=12:=by omega
   (with_reducible apply z41);exact kv;exact HV;rfl;exact kv;simp only[vcA,seval,vV,d1,d2,d3];refine⟨⟨by omega,by omega⟩,?_⟩;refine z11 ⟨(n,a+q.2,acc++[q.1]),by show a+q.2≤l.length;omega,by show(acc++[q.1]).length+n=13;simp;omega,hd⟩ (by show n<n+1;omega) ?_;refine ES.Lw.trans ?_ (reT_lw (k:=5) (y:=.own 3000 4 (V.rows (acc++[q.1]))) rfl (wk_own (by simp[rowsLen]) (pwk_rowV acc q.1 hvl)));apply lw_of<;>simp[leL,lk,sv,Nat.beq,I,S,ES.kill,has,drp,nilT]
  ·rw[if_neg hacc]at hd;have hal:0<acc.length:=List.length_pos_iff.2 hacc;have d0:(0:Int)<(acc.length:Int):=by omega
   by_cases h32:sgnS 32 (l.drop a)=1
   ·rw[if_pos h32]at hd;simp only[]at hd;have ha1:a+1≤l.length:=by
     have:l.drop a≠[]:=by
      intro h0;unfold sgnS at h32;rw[if_neg (fun h=>h.1 h0)]at h32;cases h32
     rw[Ne,List.drop_eq_nil_iff]at this;omega
    rw[h32,show(a:Int)+1=((a+1:Nat):Int) by omega]at T32;simp only[vcA,seval,vV,d0];(with_reducible apply v_call);simp only[vcA,seval,vV,i32];rfl;rfl;exact M32;exact km;simp only[vcA,seval,vV,i32];rfl;(with_reducible apply z41);simp only[vcA,seval,vV,i32,V.nil];rfl;exact T32;rfl;simp only[vcA,seval,vV,i32,V.nil];rfl;simp only[vcA,seval,vV];have HV:=takeV_ok a0 a1 m l (a+1) hl ha1;have hvl:=partV_l (l.drop (a+1));have hple:=partV_le (l.drop (a+1));rw[List.length_drop]at hple;generalize partV (l.drop (a+1))=q at*;by_cases hbad:q.2=0∨q.1.k=5∨acc.length=12
    ·rw[if_pos hbad]at hd;cases hd
    rw[if_neg hbad]at hd;have d1:(0:Int)<(q.2:Int):=by omega
    have d2:¬q.1.k=5:=by omega
    have d3:¬(acc.length:Int)=12:=by omega
    (with_reducible apply z41);exact kv;exact HV;rfl;exact kv;simp only[vcA,seval,vV,d1,d2,d3];refine⟨⟨by omega,by omega⟩,?_⟩;refine z11 ⟨(n,a+1+q.2,acc++[q.1]),by show a+1+q.2≤l.length;omega,by show(acc++[q.1]).length+n=13;simp;omega,hd⟩ (by show n<n+1;omega) ?_;refine ES.Lw.trans ?_ (reT_lw (k:=5) (y:=.own 3000 4 (V.rows (acc++[q.1]))) rfl (wk_own (by simp[rowsLen]) (pwk_rowV acc q.1 hvl)));apply lw_of<;>simp[leL,lk,sv,Nat.beq,I,S,ES.kill,has,drp,nilT]
   ·rw[if_neg h32]at hd;cases hd
end Go.Proofs.YtcpaleaajdilgaaGreatDoor
end

section
namespace Go.Proofs.YtcpaleaajdilgaaGreatDoor
open Go Go.RowKit Go.Mor Go.Sh Go.Sh.Cd1
set_option maxRecDepth 100000
set_option maxHeartbeats 2000000
theorem wk_tuple2{a b c:TV}(h:Wk a b):Wk (.tuple [a,c]) (.tuple [b,c]):=by
 intro w E r v hr;cases hr with
 |tuple cs vs hl hv=>
  refine .tuple _ vs (by simpa using hl) (fun j d v hd hv'=> ?_)
  match j with
  |0=>simp at hd;subst hd;exact h w E r v (hv 0 _ v rfl hv')
  |1=>simp at hd;subst hd;exact hv 1 _ v rfl hv'
  |j+2=>simp at hd
theorem dRest_l{s:List UInt8}{k b c:Int}{v:V}(h:dRest s k b=.ok (v,c)):v.l=[]:=by
 unfold dRest at h;by_cases e1:k=1
 ·rw[if_pos e1]at h;cases hn:dNum s b (-1000000000000000) 1000000000000000 with
  |error e=>rw[hn]at h;cases h
  |ok q=>rw[hn]at h;cases h;rfl
 rw[if_neg e1]at h;by_cases e2:k=2
 ·rw[if_pos e2]at h;cases hn:dText s b with
  |error e=>rw[hn]at h;cases h
  |ok q=>rw[hn]at h;cases h;rfl
 rw[if_neg e2]at h;by_cases e3:k=3∨k=4
 ·rw[if_pos e3]at h;cases hn:dNum s b (-20) 100000 with
  |error e=>rw[hn]at h;cases h
  |ok q=>
   obtain⟨n,c'⟩:=q;rw[hn]at h;simp only[]at h;by_cases hz:n=0
   ·rw[if_pos hz]at h;cases h
   ·rw[if_neg hz]at h;cases h;rfl
 rw[if_neg e3]at h;cases h;rfl
theorem val5_ok(a0 a1:Addr)(m:Nat)(s:List UInt8)(a:Int)(hs:SmallS s)(ha:I64 a){v:V}{c:Int}(h:dVal s a=.ok (v,c)):
  SCalls Tryz.prog (gl a0 a1 m) 50 [.ptr 1000 0,I 5] [dec s a] (.tuple [tv v,I 0]) [dec s c]:=by
 unfold dVal at h;cases hk:dNum s a 0 5 with
 |error e=>rw[hk]at h;cases h
 |ok q=>
  obtain⟨k,b⟩:=q;rw[hk]at h;simp only[]at h;by_cases h5:k=5
  ·rw[if_pos h5]at h;subst h5;cases hi:dItems s b with
   |error e=>rw[hi]at h;cases h
   |ok q=>
    obtain⟨l,c'⟩:=q;rw[hi]at h;cases h;have HK:=number_ok a0 a1 m s a 0 5 hs ha hk;have HI:=items_ok a0 a1 m s b hs (dNum_pos hs hk).1 hi;refine z25 hmix tf_5 rfl rfl rfl ?_;unfold dec at HK HI ⊢;simp only[vcA,seval,vV];(with_reducible apply v_call);exact kv;rfl;exact HK;exact km;exact kv;simp only[vcA,seval,vV];(with_reducible apply v_call);exact kv;rfl;exact HI;exact km;exact kv;simp only[vcA,seval,vV];rfl
  ·rw[if_neg h5]at h;exact(value1_ok a0 a1 m s a 5 hs ha hk h5 h).out (wk_tuple2 (nv_tv (dRest_l h)))
theorem decode_ok(a0 a1:Addr)(m:Nat)(s:List UInt8)(a:Int)(hs:SmallS s)(ha:0≤a)(hb:a≤s.length){v:V}{c:Int}(h:dVal s a=.ok (v,c)):
  SCalls Tryz.prog (gl a0 a1 m) 15 [S (str s),I a] [] (.tuple [tv v,I c,I 0]) []:=by
 have hs':s.length<1125899906842624:=hs;have HV:=val5_ok a0 a1 m s a hs (by unfold I64;omega) h;refine z8 hmix tf_36 rfl ?_;have l1:¬a<0:=by omega
 have l2:¬(s.length:Int)<a:=by omega
 unfold dec at HV;simp only[vcA,seval,vV,l1,l2];(with_reducible apply v_call);exact kv;rfl;exact HV;exact km;exact kv;simp only[vcA,seval,vV]
end Go.Proofs.YtcpaleaajdilgaaGreatDoor
end

section
namespace Go.Proofs.YtcpaleaajdilgaaGreatDoor
open Go Go.RowKit Go.Mor Go.Sh Go.Sh.Cd1
set_option maxRecDepth 100000
set_option maxHeartbeats 4000000
def readV(l:List UInt8)(a:Nat):Option (V×Nat):=
 if(partV (l.drop a)).2=0 then none
 else if(partV (l.drop a)).1.k=5 then(match z49 l 13 (a+(partV (l.drop a)).2) []with
  |some (r,p)=>some (.mk 5 0 [] r,p)
  |none=>none)
 else some ((partV (l.drop a)).1,a+(partV (l.drop a)).2)
theorem partV_5{l:List UInt8}(h:(partV l).1.k=5):(partV l).1=.mk 5 0 [] []:=by
 unfold partV at h ⊢;by_cases f34:firstR l=34
 ·rw[if_pos f34]at h;simp[V.k]at h
 rw[if_neg f34]at h ⊢;by_cases f64:firstR l=64
 ·rw[if_pos f64]at h;simp[V.k]at h
 rw[if_neg f64]at h ⊢;by_cases f126:firstR l=126
 ·rw[if_pos f126]at h;simp[V.k]at h
 rw[if_neg f126]at h ⊢;by_cases f91:firstR l=91
 ·rw[if_pos f91]
 rw[if_neg f91]at h;by_cases h0:(numV (-1000000000000000) 1000000000000000 l).2=0
 ·rw[if_pos h0]at h;simp[V.k,V.nil]at h
 ·rw[if_neg h0]at h;simp[V.k]at h
theorem wk_tuple3{a b c d:TV}(h:Wk a b):Wk (.tuple [a,c,d]) (.tuple [b,c,d]):=by
 intro w E r v hr;cases hr with
 |tuple cs vs hl hv=>
  refine .tuple _ vs (by simpa using hl) (fun j x v hd hv'=> ?_)
  match j with
  |0=>simp at hd;subst hd;exact h w E r v (hv 0 _ v rfl hv')
  |1=>simp at hd;subst hd;exact hv 1 _ v rfl hv'
  |2=>simp at hd;subst hd;exact hv 2 _ v rfl hv'
  |j+3=>simp at hd
theorem read_ok(a0 a1:Addr)(m:Nat)(l:List UInt8)(a:Nat)(hl:l.length<1125899906842624)(ha:a≤l.length){v:V}{p:Nat}(h:readV l a=some (v,p)):
  SCalls Tryz.prog (gl a0 a1 m) 17 [S (str l),I (a:Int)] [] (.tuple [tv v,I (p:Int),I 0]) []:=by
 have HR:=reader_ok (gl a0 a1 m) l a;have HT:=takeV_ok a0 a1 m l a hl ha;have hle:=partV_le (l.drop a);have h5:=fun h=>partV_5 (l:=l.drop a) h;have hnl:=partV_l (l.drop a);rw[List.length_drop]at hle;have l1:¬(a:Int)<0:=by omega
 have l2:¬(l.length:Int)<(a:Int):=by omega
 unfold readV at h;generalize partV (l.drop a)=q at*;by_cases h0:q.2=0
 ·rw[if_pos h0]at h;cases h
 rw[if_neg h0]at h;have d1:(0:Int)<(q.2:Int):=by omega
 by_cases hk:q.1.k=5
 ·rw[if_pos hk]at h;have hq:=h5 hk;cases hi:z49 l 13 (a+q.2) []with
  |none=>rw[hi]at h;cases h
  |some z=>
   obtain⟨r,p'⟩:=z;rw[hi]at h;cases h;have HI:=ritems_ok a0 a1 m l (a+q.2) hl (by omega) hi;rw[hq]at HT;refine z8 hmix tf_40 rfl ?_;simp only[vcA,seval,vV,l1,l2];(with_reducible apply v_call);exact kv;rfl;exact HR;exact km;exact kv;simp only[vcA,seval,vV];(with_reducible apply z41);exact kv;exact HT;rfl;exact kv;simp only[vcA,seval,vV,d1];(with_reducible apply v_call);exact kv;rfl;exact HI;exact km;exact kv;simp only[vcA,seval,vV]
 ·rw[if_neg hk]at h;cases h;refine SCalls.out ?_ (wk_tuple3 (nv_tv hnl));refine z8 hmix tf_40 rfl ?_;simp only[vcA,seval,vV,l1,l2];(with_reducible apply v_call);exact kv;rfl;exact HR;exact km;exact kv;simp only[vcA,seval,vV];(with_reducible apply z41);exact kv;exact HT;rfl;exact kv;simp only[vcA,seval,vV,d1,hk]
end Go.Proofs.YtcpaleaajdilgaaGreatDoor
end

section
namespace Go.Proofs.YtcpaleaajdilgaaGreatDoor
open Go Go.Mor
set_option maxHeartbeats 2000000
theorem quoV_qs{s:List UInt8}(h:z15 s=true)(post:List UInt8):quoV (34::(qs s++34::post))=(s,(qs s).length+2):=by
 have hl:=z67 h;have hT:isText s=true:=by
  rw[isText_eq s.length s (Nat.le_refl _)];unfold z15 at h;simp only[Bool.and_eq_true]at h;simp[h.2.1,h.2.2]
 unfold quoV;rw[List.drop_one,List.tail_cons,quoGo_qs post s.length s [] 1 _ (Nat.le_refl _) hT (by simpa using hl) (by simpa using h) (by simp;omega)];simp;omega
def text1(x:V):List UInt8:=
 if x.k=1 then Lib.itoa x.n else if x.k=2 then 34::(qs x.s++[34])else if x.k=3 then 64::Lib.itoa x.n else if x.k=4 then 126::Lib.itoa x.n else [45]
theorem itoa_head(n:Int):∃c r,Lib.itoa n=c::r∧(c.toNat=45∨48≤c.toNat∧c.toNat≤57):=by
 unfold Lib.itoa;by_cases h:n<0
 ·rw[if_pos h];exact⟨45,_,rfl,.inl rfl⟩
 ·rw[if_neg h];obtain⟨c,r,h1,h2⟩:=z124 n.toNat;exact⟨c,r,h1,.inr h2⟩
theorem refV_itoa{c:UInt8}{n:Int}(h:z71 n=true){r:List UInt8}(hr:NoDigit r):refV (c::(Lib.itoa n++r))=(n,(Lib.itoa n).length+1):=by
 have hid:=z92 h;unfold refV;rw[List.drop_one,List.tail_cons,numV_itoa (by omega) (by omega) (by omega) (by omega) hr];rw[if_neg (by show ¬n=0;omega)]
theorem partV_text{x:V}(h:right1 x=true){post:List UInt8}(hp:NoDigit post):partV (text1 x++post)=(x,(text1 x).length):=by
 rcases z87 h with rfl|⟨n,h1,h2,rfl⟩|⟨s,h1,rfl⟩|⟨k,n,hk,h1,rfl⟩
 ·have ht:text1 (.mk 0 0 [] [])=[45]:=rfl;have hf:firstR (45::post)=45:=z43 (by decide);rw[ht,List.singleton_append];unfold partV;rw[hf,if_neg (by decide),if_neg (by decide),if_neg (by decide),if_neg (by decide)];have hn:numV (-1000000000000000) 1000000000000000 (45::post)=(0,0):=by
   unfold numV;rw[hf,if_pos rfl,List.drop_one,List.tail_cons,numGo_end _ _ _ hp]
  rw[hn,if_pos rfl,if_pos ⟨by simp,rfl⟩];rfl
 ·have ht:text1 (.mk 1 n [] [])=Lib.itoa n:=rfl;obtain⟨c,r,e,hc⟩:=itoa_head n;have hf:firstR (Lib.itoa n++post)=c.toNat:=by rw[e,List.cons_append];exact z43 (by omega)
  rw[ht];unfold partV;rw[hf,if_neg (by omega),if_neg (by omega),if_neg (by omega),if_neg (by omega),numV_itoa h1 h2 h1 h2 hp,if_neg (by rw[e];simp)]
 ·have ht:text1 (.mk 2 0 s [])++post=34::(qs s++34::post):=by show(34::(qs s++[34]))++post=_;simp
  have hl:(text1 (.mk 2 0 s [])).length=(qs s).length+2:=by show(34::(qs s++[34])).length=_;simp
  have hf:firstR (34::(qs s++34::post))=34:=z43 (by decide);rw[ht,hl];unfold partV;rw[if_pos hf,quoV_qs h1]
 ·rcases hk with rfl|rfl
  ·have ht:text1 (.mk 3 n [] [])++post=64::(Lib.itoa n++post):=rfl;have hl:(text1 (.mk 3 n [] [])).length=(Lib.itoa n).length+1:=rfl;have hf:firstR (64::(Lib.itoa n++post))=64:=z43 (by decide);rw[ht,hl];unfold partV;rw[hf,if_neg (by decide),if_pos rfl,refV_itoa h1 hp]
  ·have ht:text1 (.mk 4 n [] [])++post=126::(Lib.itoa n++post):=rfl;have hl:(text1 (.mk 4 n [] [])).length=(Lib.itoa n).length+1:=rfl;have hf:firstR (126::(Lib.itoa n++post))=126:=z43 (by decide);rw[ht,hl];unfold partV;rw[hf,if_neg (by decide),if_neg (by decide),if_pos rfl,refV_itoa h1 hp]
theorem text1_pos(x:V)(h:right1 x=true):0<(text1 x).length:=by
 have h0:∀n,0<(Lib.itoa n).length:=fun n=>by obtain⟨c,r,e,_⟩:=itoa_head n;rw[e];simp
 unfold text1
 (repeat' split)<;>first|exact h0 _|simp
def tailT:List V→List UInt8
 |[]=>[93]
 |y::l=>32::(text1 y++tailT l)
def headT:List V→List UInt8
 |[]=>[93]
 |y::l=>text1 y++tailT l
theorem tailT_noDigit(l:List V)(post:List UInt8):NoDigit (tailT l++post):=by
 intro c r h;cases l with
 |nil=>simp only[tailT,List.cons_append,List.cons.injEq]at h;rw[←h.1];decide
 |cons y l=>simp only[tailT,List.cons_append,List.cons.injEq]at h;rw[←h.1];decide
theorem sgnS_low{c:UInt8}{r:List UInt8}(hc:c.toNat<128)(x:Int):sgnS x (c::r)=if(c.toNat:Int)=x then 1 else 0:=by
 unfold sgnS;rw[z43 hc];simp
theorem sgn93_text{y:V}(h:right1 y=true)(X:List UInt8):sgnS 93 (text1 y++X)=0:=by
 have key:∃c r,text1 y=c::r∧c.toNat<128∧c.toNat≠93:=by
  have hi:=fun n=>itoa_head n;rcases z87 h with rfl|⟨n,h1,h2,rfl⟩|⟨s,h1,rfl⟩|⟨k,n,hk,h1,rfl⟩
  ·exact⟨45,[],rfl,by decide,by decide⟩
  ·obtain⟨c,r,e,hc⟩:=hi n;exact⟨c,r,e,by omega,by omega⟩
  ·exact⟨34,_,rfl,by decide,by decide⟩
  ·rcases hk with rfl|rfl
   ·exact⟨64,_,rfl,by decide,by decide⟩
   ·exact⟨126,_,rfl,by decide,by decide⟩
 obtain⟨c,r,e,h1,h2⟩:=key;rw[e,List.cons_append,sgnS_low h1,if_neg (by omega)]
theorem drop_add{L X Y:List UInt8}{a:Nat}(h:L.drop a=X++Y):L.drop (a+X.length)=Y:=by
 rw[←List.drop_drop,h,List.drop_left]
theorem items_tail(L post:List UInt8):∀(l acc:List V) (n a:Nat),(∀y∈l,right1 y=true)→acc≠[]→acc.length+l.length≤12→l.length<n→L.drop a=tailT l++post→
  z49 L n a acc=some (acc++l,a+(tailT l).length)
 |[],acc,n,a,_,hacc,hlen,hn,hd=>by
  obtain⟨n',rfl⟩:∃n',n=n'+1:=⟨n-1,by simp at hn;omega⟩
  rw[z49,hd,tailT,List.singleton_append,sgnS_low (by decide),if_pos (by decide)];simp
 |y::l,acc,n,a,hr,hacc,hlen,hn,hd=>by
  obtain⟨n',rfl⟩:∃n',n=n'+1:=⟨n-1,by simp at hn;omega⟩
  rw[List.length_cons]at hlen hn;have hry:=hr y (by simp);rw[tailT,List.cons_append,List.append_assoc]at hd;have hd1:L.drop (a+1)=text1 y++(tailT l++post):=by
   rw[←List.drop_drop,hd,List.drop_one,List.tail_cons]
  have hpv:=partV_text hry (tailT_noDigit l post);have hpos:=text1_pos y hry;rw[z49,hd,sgnS_low (by decide),if_neg (by decide)];unfold nextA;rw[if_neg hacc,hd,sgnS_low (by decide),if_pos (by decide)];simp only[];rw[hd1,hpv,if_neg (by show ¬((text1 y).length=0∨y.k=5∨acc.length=12);have:=(right1_ok hry).2.1;omega)];rw[items_tail L post l (acc++[y]) n' (a+1+(text1 y).length) (fun z hz=>hr z (by simp[hz])) (by simp) (by simp;omega) (by omega) (drop_add hd1)];simp only[List.append_assoc,List.singleton_append,tailT,List.length_cons,List.length_append];congr 2;omega
theorem items_head(L post:List UInt8)(l:List V)(a:Nat)(hr:∀y∈l,right1 y=true)(hlen:l.length≤12)(hd:L.drop a=headT l++post):z49 L 13 a []=some (l,a+(headT l).length):=by
 cases l with
 |nil=>
  rw[z49,hd,headT,List.singleton_append,sgnS_low (by decide),if_pos (by decide)];simp
 |cons y l=>
  rw[List.length_cons]at hlen;have hry:=hr y (by simp);rw[headT,List.append_assoc]at hd;have hpv:=partV_text hry (tailT_noDigit l post);have hpos:=text1_pos y hry;rw[z49,hd,sgn93_text hry,if_neg (by decide)];unfold nextA;rw[if_pos rfl];simp only[];rw[hd,hpv,if_neg (by show ¬((text1 y).length=0∨y.k=5∨(0:Nat)=12);have:=(right1_ok hry).2.1;omega)];rw[items_tail L post l ([]++[y]) 12 (a+(text1 y).length) (fun z hz=>hr z (by simp[hz])) (by simp) (by simp;omega) (by omega) (drop_add hd)];simp only[List.nil_append,List.singleton_append,headT,List.length_append];congr 2;omega
def textV(x:V):List UInt8:=if x.k=5 then 91::headT x.l else text1 x
theorem readV_text{x:V}(h:rightV x=true)(pre:List UInt8){post:List UInt8}(hp:NoDigit post):readV (pre++textV x++post) pre.length=some (x,pre.length+(textV x).length):=by
 have hd0:(pre++textV x++post).drop pre.length=textV x++post:=by rw[List.append_assoc,List.drop_left]
 by_cases h5:x.k=5
 ·obtain⟨h1,h2,h3,h4⟩:=z64 h h5;have ht:textV x=91::headT x.l:=by unfold textV;rw[if_pos h5]
  have hpv:partV (textV x++post)=(.mk 5 0 [] [],1):=by
   have hf:firstR (91::(headT x.l++post))=91:=z43 (by decide);rw[ht,List.cons_append];unfold partV;rw[hf,if_neg (by decide),if_neg (by decide),if_neg (by decide),if_pos rfl]
  have hd1:(pre++textV x++post).drop (pre.length+1)=headT x.l++post:=by
   rw[←List.drop_drop,hd0,ht,List.cons_append,List.drop_one,List.tail_cons]
  unfold readV;rw[hd0,hpv];simp only[];rw[if_neg (by decide),if_pos (show V.k (.mk 5 0 [] [])=5 from rfl),items_head _ post x.l _ (fun y hy=>(h4 y hy).2) h3 hd1];have hx:x=.mk 5 0 [] x.l:=by conv=>lhs;rw[←V.eta x,h5,h1,h2]
  simp only[];rw[←hx,ht,List.length_cons];congr 2;omega
 ·have hr:=z65 h h5;have ht:textV x=text1 x:=by unfold textV;rw[if_neg h5]
  have hpos:=text1_pos x hr;unfold readV;rw[hd0,ht,partV_text hr hp,if_neg (by show ¬(text1 x).length=0;omega),if_neg h5]
theorem index_none1(c:UInt8):∀(s:List UInt8),c∉s→Lib.index s [c]= -1
 |[],_=>rfl
 |b::l,h=>by
  have h1:¬c=b:=fun e=>h (e▸List.mem_cons_self ..);have h2:=index_none1 c l (fun hm=>h (List.mem_cons_of_mem _ hm));unfold Lib.index;rw[h2];have:([c].isPrefixOf (b::l))=false:=by simp[List.isPrefixOf,h1]
  rw[this];rfl
theorem index_at1(c:UInt8)(post:List UInt8):∀(pre:List UInt8),c∉pre→Lib.index (pre++c::post) [c]=pre.length
 |[],_=>by simp[Lib.index,List.isPrefixOf]
 |b::l,h=>by
  have h1:¬c=b:=fun e=>h (e▸List.mem_cons_self ..);have h2:=index_at1 c post l (fun hm=>h (List.mem_cons_of_mem _ hm));show Lib.index (b::(l++c::post)) [c]=_;unfold Lib.index;rw[h2];have:([c].isPrefixOf (b::(l++c::post)))=false:=by simp[List.isPrefixOf,h1]
  rw[this];have h3:((l.length:Int)== -1)=false:=by rw[beq_eq_false_iff_ne];omega
  simp only[Bool.false_eq_true,if_false,h3,List.length_cons];omega
theorem replaceK_one(c:UInt8)(new:List UInt8):∀(fuel:Nat) (s:List UInt8),s.length<fuel→Lib.replaceK [c] new (Lib.countFrom [c] fuel s) s=s.flatMap fun b=>if b=c then new else [b]
 |0,s,h=>by omega
 |fuel+1,s,h=>by
  have hplain:∀l:List UInt8,c∉l→(l.flatMap fun b=>if b=c then new else [b])=l:=by
   intro l
   induction l with
   |nil=>intro _;rfl
   |cons b l ih=>
    intro hm;have h1:¬b=c:=fun e=>hm (e▸List.mem_cons_self ..);rw[List.flatMap_cons,if_neg h1,ih (fun h=>hm (List.mem_cons_of_mem _ h))];rfl
  by_cases hm:c∈s
  ·obtain⟨pre,post,rfl,hpre⟩:=List.eq_append_cons_of_mem hm;have hi:=index_at1 c post pre hpre;have hne:¬(Lib.index (pre++c::post) [c]== -1)=true:=by rw[hi,beq_iff_eq];omega
   unfold Lib.countFrom;rw[if_neg hne,Nat.add_comm,Lib.replaceK_hit _ _ _ _ pre.length hi,hi];have hd:(pre++c::post).drop ((pre.length:Int).toNat+[c].length)=post:=by
    rw[Int.toNat_natCast,List.drop_append];simp
   have hd':(pre++c::post).drop (pre.length+[c].length)=post:=by
    rw[List.drop_append];simp
   rw[hd,hd',replaceK_one c new fuel post (by simp at h;omega)];rw[List.take_append_of_le_length (Nat.le_refl _),List.take_length,List.flatMap_append,hplain pre hpre,List.flatMap_cons,if_pos rfl,List.append_assoc]
  ·unfold Lib.countFrom;rw[index_none1 c s hm,if_pos (by decide),Lib.replaceK,hplain s hm]
theorem z109(c:UInt8)(new:List UInt8)(hne:new≠[c])(s:List UInt8):Lib.replaceAll s [c] new=s.flatMap fun b=>if b=c then new else [b]:=by
 unfold Lib.replaceAll Lib.replace Lib.replaceNum Lib.count;have h1:([c]==new)=false:=by rw[beq_eq_false_iff_ne];exact fun h=>hne h.symm
 rw[h1,if_neg (by decide),if_pos (Or.inl (by decide))];exact replaceK_one c new _ s (by omega)
theorem repl_len(s:List UInt8):(Lib.replaceAll s [92] [92,92]).length≤2*s.length:=by
 rw[z109 92 _ (by decide)]
 induction s with
 |nil=>simp
 |cons b s ih=>rw[List.flatMap_cons,List.length_append,List.length_cons];split<;>simp only[List.length_cons,List.length_nil]<;>omega
theorem countFrom_le(c:UInt8):∀(fuel:Nat) (s:List UInt8),Lib.countFrom [c] fuel s≤s.length
 |0,s=>by simp[Lib.countFrom]
 |fuel+1,s=>by
  unfold Lib.countFrom;split
  ·omega
  ·rename_i h;have h1:=Lib.index_ge s [c];have h2:Lib.index s [c]≠ -1:=fun e=>h (by rw[e];rfl);have h3:=Lib.index_room s [c] (by omega);have:=countFrom_le c fuel (s.drop ((Lib.index s [c]).toNat+[c].length));simp only[List.length_drop,List.length_singleton]at this h3 ⊢;omega
theorem countB_one(c:UInt8)(s:List UInt8):Lib.countB (str s) (str [c])≤s.length:=by
 have:Lib.countB (str s) (str [c])=Lib.count s [c]:=by unfold Lib.countB;rw[str_toList,str_toList]
 rw[this];exact countFrom_le c _ s
theorem qs_repl(s:List UInt8):Lib.replaceAll (Lib.replaceAll s [92] [92,92]) [34] [92,34]=qs s:=by
 rw[z109 34 _ (by decide),z109 92 _ (by decide)];unfold qs;rw[List.flatMap_assoc];congr 1;funext b;by_cases h1:b=92
 ·subst h1;decide
 ·by_cases h2:b=34
  ·subst h2;decide
  ·have e1:¬b.toNat=34:=fun h=>h2 (UInt8.toNat_inj.1 (by rw[h];rfl));have e2:¬b.toNat=92:=fun h=>h1 (UInt8.toNat_inj.1 (by rw[h];rfl));simp[h1,h2,e1,e2]
theorem headT_join(l:List V):Lib.join (l.map text1) [32]++[93]=headT l:=by
 have ht:∀l:List V,Lib.joinTail [32] (l.map text1)++[93]=tailT l:=by
  intro l
  induction l with
  |nil=>rfl
  |cons y l ih=>
   simp only[Lib.joinTail,List.map_cons,List.flatten_cons,List.append_assoc]at ih ⊢;rw[ih];rfl
 cases l with
 |nil=>rfl
 |cons y l=>rw[List.map_cons,Lib.join_cons,List.append_assoc,ht];rfl
theorem text1_len{x:V}(h:right1 x=true):(text1 x).length≤130:=by
 have key:∀n:Int, -1000000000000000≤n→n≤1000000000000000→(Lib.itoa n).length≤21:=fun n h1 h2=>Lib.itoa_length_le n (by omega) (by omega);rcases z87 h with rfl|⟨n,h1,h2,rfl⟩|⟨s,h1,rfl⟩|⟨k,n,hk,h1,rfl⟩
 ·decide
 ·have:=key n h1 h2;show(Lib.itoa n).length≤_;omega
 ·have h3:=qs_len s;have h4:=z67 h1;show(34::(qs s++[34])).length≤_;simp;omega
 ·have h5:=z92 h1;have:=key n (by omega) (by omega);rcases hk with rfl|rfl
  ·show(64::Lib.itoa n).length≤_;simp;omega
  ·show(126::Lib.itoa n).length≤_;simp;omega
theorem tailT_len:∀(l:List V),(∀y∈l,right1 y=true)→(tailT l).length≤131*l.length+1
 |[],_=>by decide
 |y::l,h=>by
  have h1:=text1_len (h y (List.mem_cons_self ..));have h2:=tailT_len l (fun z hz=>h z (List.mem_cons_of_mem _ hz));show(32::(text1 y++tailT l)).length≤_;simp;omega
theorem headT_len(l:List V)(h:∀y∈l,right1 y=true):(headT l).length≤131*l.length+1:=by
 cases l with
 |nil=>decide
 |cons y l=>
  have h1:=text1_len (h y (List.mem_cons_self ..));have h2:=tailT_len l (fun z hz=>h z (List.mem_cons_of_mem _ hz));show(text1 y++tailT l).length≤_;simp;omega
theorem textV_len{x:V}(h:rightV x=true):(textV x).length≤2000:=by
 unfold textV;by_cases h5:x.k=5
 ·obtain⟨_,_,h3,h4⟩:=z64 h h5;have:=headT_len x.l (fun y hy=>(h4 y hy).2);rw[if_pos h5];simp;omega
 ·rw[if_neg h5];have:=text1_len (z65 h h5);omega
end Go.Proofs.YtcpaleaajdilgaaGreatDoor
end

section
namespace Go.Sh.Cd2
open Go Go.Sh
set_option maxRecDepth 100000
abbrev c_44_0:=kV [1] [kO 1 0,oD 2 (.mov (.val (.string ⟨#[]⟩))),kI 3 0] [0,2,3]
abbrev c_44_1:=kV [2020,2021,2022,2023] [oL 4 true 4 1,kC 5 48 0 4,kN 6 5] [4,5]
abbrev c_44_2:=kR [oD 2 (.mov (.val (.string ⟨#[]⟩))),kI 3 30] [1,6]
abbrev c_44_3:=kV [2032,2033,2034,2035] [oL 7 true 4 1,kC 8 51 0 7,oM 2 8,kI 3 0] [1,6,7,8]
abbrev F_44:SFunc:=⟨9,(.seq c_44_0 (.seq (.seq c_44_1 (.cond (.tmp 6) (.seq c_44_2 .ret) .skip)) (.seq c_44_3 .ret))),[.tmp 2,.tmp 3],false⟩
theorem tf_44:kU 16 [(5,0),(8,0)] [] F_44:=by unfold kU;kernel_rfl
abbrev c_41_0:=kV [1] [kO 1 0,oD 2 (.mov (.val (.slice none 0 0)))] [0,2]
abbrev c_41_1:=kV [2016,2017,2018,2019] [oL 3 true 4 1,oD 4 (.call 57 0 [.tmp 3,vI 3]),oM 2 4] [1,3,4]
abbrev F_41:SFunc:=⟨5,(.seq c_41_0 (.seq c_41_1 .ret)),[.tmp 2],false⟩
theorem tf_41:kU 20 [(4,0)] [] F_41:=by unfold kU;kernel_rfl
abbrev c_45_0:=kV [1] [kO 1 0,oD 2 (.mov (.val (.slice none 0 0)))] [0,2]
abbrev c_45_1:=kV [2016,2017,2018,2019] [oL 3 true 4 1,oD 4 (.call 57 0 [.tmp 3,vI 4]),oM 2 4] [1,3,4]
abbrev F_45:SFunc:=⟨5,(.seq c_45_0 (.seq c_45_1 .ret)),[.tmp 2],false⟩
theorem tf_45:kU 21 [(4,0)] [] F_45:=by unfold kU;kernel_rfl
abbrev c_66_0:=kV [1] [kO 1 0,oD 2 (.mov (.val (.string ⟨#[]⟩)))] [0,2]
abbrev c_66_1:=kR [kA 7 0 1,oL 8 false 1 7] [7]
abbrev c_66_2:=kR [kK 10 .eql 3 8 1,oM 9 10] [10]
abbrev c_66_3:=kV [2052,2053,2054,2055] [kA 11 1 1,oL 12 false 1 11,kC 13 97 0 12,oM 2 13] [1,8,9,11,12,13]
abbrev c_66_4:=kR [kK 15 .eql 3 8 2,oM 14 15] [9,15]
abbrev c_66_5:=kV [2072,2073,2074,2075] [kA 16 2 1,oL 17 false 1 16,oD 18 (.call 98 0 [.tmp 17,.val (.string ⟨#[92]⟩),.val (.string ⟨#[92,92]⟩)]),oM 3 18] [1,8,14,16,17,18]
abbrev c_66_6:=kV [2080,2081,2082,2083] [oM 19 3,oD 20 (.call 98 0 [.tmp 19,.val (.string ⟨#[34]⟩),.val (.string ⟨#[92,34]⟩)]),oD 21 (.bin .add 9 (.val (.string ⟨#[34]⟩)) (.tmp 20)),oD 22 (.bin .add 9 (.tmp 21) (.val (.string ⟨#[34]⟩))),oM 2 22] [3,19,20,21,22]
abbrev c_66_7:=kR [kK 24 .eql 3 8 3,oM 23 24] [14,24]
abbrev c_66_8:=kV [2108,2109,2110,2111] [kA 25 1 1,oL 26 false 1 25,kC 27 97 0 26,oD 28 (.bin .add 9 (.val (.string ⟨#[64]⟩)) (.tmp 27)),oM 2 28] [1,8,23,25,26,27,28]
abbrev c_66_9:=kR [kK 30 .eql 3 8 4,oM 29 30] [23,30]
abbrev c_66_10:=kV [2132,2133,2134,2135] [kA 31 1 1,oL 32 false 1 31,kC 33 97 0 32,oD 34 (.bin .add 9 (.val (.string ⟨#[126]⟩)) (.tmp 33)),oM 2 34] [1,8,29,31,32,33,34]
abbrev c_66_11:=kR [kK 36 .eql 3 8 5,oM 35 36] [8,29,36]
abbrev c_66_12:=kV [40] [kA 37 3 1,oL 38 false 1 37,kZ 39 38,oD 40 (.mks 16 [(.string ⟨#[]⟩)] (.tmp 39)),oM 4 40] [35,37,38,39,40]
abbrev c_66_13:=kR [kA 41 3 1,oL 42 false 1 41,kZ 43 42,kI 44 0] [1,41]
abbrev c_66_14:=kR [kB 45 .lss 3 44 43] []
abbrev c_66_15:=kV [6] [oM 46 44,kX 47 4 42 44,oL 48 true 4 47,oD 6 (.new zV),oM 5 46,kS 4 6 48] [45,46,47,48]
abbrev c_66_16:=kV [2208,2209,2210,2211] [oM 49 4,oM 50 5,oL 51 true 4 6,kC 52 51 0 51,kX 53 1 49 50,kS 1 53 52] [5,6,49,50,51,52,53]
abbrev c_66_17:=kR [kK 54 .add 3 44 1,oM 44 54] [54]
abbrev c_66_18:SCode:=(.seq c_66_14 (.seq (.cond (.tmp 45) .skip (.exit 1)) (.seq (.block 2 (.seq c_66_15 c_66_16)) c_66_17)))
abbrev c_66_19:=kV [2224,2225,2226,2227] [oM 55 4,oD 56 (.call 99 1 [.tmp 55,.val (.string ⟨#[32]⟩)]),oD 57 (.bin .add 9 (.val (.string ⟨#[91]⟩)) (.tmp 56)),oD 58 (.bin .add 9 (.tmp 57) (.val (.string ⟨#[93]⟩))),oM 2 58] [4,42,43,44,55,56,57,58]
abbrev c_66_20:=kR [oD 2 (.mov (.val (.string ⟨#[45]⟩)))] [1,35]
abbrev F_66:SFunc:=⟨59,(.seq c_66_0 (.seq (.seq c_66_1 (.block 0 (.seq c_66_2 (.cond (.tmp 9) (.seq c_66_3 .ret) (.seq c_66_4 (.cond (.tmp 14) (.seq c_66_5 (.seq c_66_6 .ret)) (.seq c_66_7 (.cond (.tmp 23) (.seq c_66_8 .ret) (.seq c_66_9 (.cond (.tmp 29) (.seq c_66_10 .ret) (.seq c_66_11 (.cond (.tmp 35) (.seq c_66_12 (.seq (.seq c_66_13 (.block 1 (.loop c_66_18))) (.seq c_66_19 .ret))) .skip)))))))))))) (.seq c_66_20 .ret))),[.tmp 2],false⟩
theorem tf_66:kU 51 [(13,0),(18,0),(20,0),(27,0),(33,0),(52,0),(56,1)] [] F_66:=by unfold kU;kernel_rfl
abbrev c_53_0:=kV [2] [kO 2 0,oD 4 (.mov (.val (.slice none 0 0)))] [0,4]
abbrev c_53_1:=kV [2036,2037,2038,2039] [oL 8 true 4 2,kC 9 48 0 8,kN 10 9] [8,9]
abbrev c_53_2:=kR [oD 4 (.mov (.val (.slice none 0 0)))] [1,2,10]
abbrev c_53_3:=kR [kA 11 0 2,oL 12 false 1 11,oM 13 1,kB 14 .eql 3 12 13] [4,10,11,12,13]
abbrev c_53_4:=kR [kA 15 1 2,oL 16 false 1 15,oD 17 (.bsl 1 [.tmp 16]),oM 4 17] [1,2,14,15,16,17]
abbrev c_53_5:=kR [oD 5 (.mov (.val (.slice none 0 0)))] [4,14]
abbrev c_53_6:=kR [kA 18 3 2,oL 19 false 1 18,kZ 20 19,kI 21 0] [2,18]
abbrev c_53_7:=kR [kB 22 .lss 3 21 20] []
abbrev c_53_8:=kV [7] [kX 23 4 19 21,oL 24 true 4 23,oD 7 (.new zV),kS 4 7 24] [22,23,24]
abbrev c_53_9:=kR [kA 25 0 7,oL 26 false 1 25,oM 27 1,kB 28 .eql 3 26 27] [25,26,27]
abbrev c_53_10:SCode:=.reg [([],[oM 29 5,kA 30 1 7,oL 31 false 1 30,oD 32 (.bsl 1 [.tmp 31]),oD 33 (.app 3 1 8 (.tmp 29) (.tmp 32)),oM 5 33]),([33],[oM 29 5,kA 30 1 7,oL 31 false 1 30,oD 32 (.bsl 1 [.tmp 31]),oD 33 (.appN 3 1 8 (.tmp 29) (.tmp 32)),oM 5 33])] [7,28,29,30,31,32,33]
abbrev c_53_11:=kR [kK 34 .add 3 21 1,oM 21 34] [7,28,34]
abbrev c_53_12:SCode:=(.seq c_53_7 (.seq (.cond (.tmp 22) .skip (.exit 0)) (.seq (.block 1 (.seq c_53_8 (.seq c_53_9 (.cond (.tmp 28) c_53_10 .skip)))) c_53_11)))
abbrev c_53_13:=kR [oM 35 5,oM 4 35] [1,5,19,20,21,35]
abbrev F_53:SFunc:=⟨36,(.seq c_53_0 (.seq (.seq c_53_1 (.cond (.tmp 10) (.seq c_53_2 .ret) .skip)) (.seq (.seq c_53_3 (.cond (.tmp 14) (.seq c_53_4 .ret) .skip)) (.seq c_53_5 (.seq (.seq c_53_6 (.block 0 (.loop c_53_12))) (.seq c_53_13 .ret)))))),[.tmp 4],false⟩
theorem tf_53:kU 57 [(9,0),(17,0),(32,0)] [] F_53:=by unfold kU;kernel_rfl
def funcs:Nat→Option SFunc
 |_=>none
end Go.Sh.Cd2
end

section
namespace Go.Proofs.YtcpaleaajdilgaaGreatDoor
open Go Go.RowKit Go.Mor Go.Sh Go.Sh.Cd1 Go.Sh.Cd2
set_option maxRecDepth 100000
set_option maxHeartbeats 4000000
theorem q34:(⟨#[34]⟩:ByteArray)=str [34]:=rfl
theorem q64:(⟨#[64]⟩:ByteArray)=str [64]:=rfl
theorem q126:(⟨#[126]⟩:ByteArray)=str [126]:=rfl
theorem q91:(⟨#[91]⟩:ByteArray)=str [91]:=rfl
theorem q93:(⟨#[93]⟩:ByteArray)=str [93]:=rfl
theorem written1_ok(m:Nat)(x:V)(h:right1 x=true):SCalls Tryz.prog (glT m) 51 [tv x] [] (S (str (text1 x))) []:=by
 refine z8 hmix tf_66 rfl ?_;have hI:∀n:Int, -1000000000000000≤n→n≤1000000000000000→SCalls Tryz.prog (glT m) 97 [I n] [] (S (str (Lib.itoa n))) []:=fun n h1 h2=>itoa_ok m n (by omega) (by omega);rcases z87 h with rfl|⟨n,h1,h2,rfl⟩|⟨s,h1,rfl⟩|⟨k,n,hk,h1,rfl⟩
 ·simp only[vcA,seval,vV];rfl
 ·have HI:=hI n h1 h2;simp only[vcA,seval,vV];(with_reducible apply v_call);exact kv;rfl;exact HI;exact km;exact kv;simp only[vcA,seval,vV];rfl
 ·have hl:=z67 h1;have l1:=repl_len s;have HR1:=repl_ok m s [92] [92,92] (by omega) (by decide) (by have:=countB_one 92 s;simp only[List.length_cons,List.length_nil];omega);have HR2:=repl_ok m (Lib.replaceAll s [92] [92,92]) [34] [92,34] (by omega) (by decide) (by have:=countB_one 34 (Lib.replaceAll s [92] [92,92]);simp only[List.length_cons,List.length_nil];omega);rw[qs_repl]at HR2;simp only[vcA,seval,vV];(with_reducible apply v_call);exact kv;rfl;exact HR1;exact km;exact kv;simp only[vcA,seval,vV];(with_reducible apply v_call);exact kv;rfl;exact HR2;exact km;exact kv;have l2:=qs_len s;simp only[vcA,seval,vV,q34];exact⟨by omega,by omega,rfl⟩
 ·have h5:=z92 h1;have HI:=hI n (by omega) (by omega);have l2:=Lib.itoa_length_le n (by omega) (by omega);rcases hk with rfl|rfl
  ·simp only[vcA,seval,vV];(with_reducible apply v_call);exact kv;rfl;exact HI;exact km;exact kv;simp only[vcA,seval,vV,q64];exact⟨by omega,rfl⟩
  ·simp only[vcA,seval,vV];(with_reducible apply v_call);exact kv;rfl;exact HI;exact km;exact kv;simp only[vcA,seval,vV,q126];exact⟨by omega,rfl⟩
def partP(l:List V)(i:Nat):List PV:=(l.take i).map (fun x=>PV.v (.string (str (text1 x))))++List.replicate (l.length-i) (.v (.string (str [])))
theorem partP_0(l:List V):pvC (partP l 0)=(List.replicate l.length [TV.pv (.v (.string ⟨#[]⟩))]).flatten:=by
 have:∀n,(List.replicate n [TV.pv (.v (.string ⟨#[]⟩))]).flatten=List.replicate n (S (str [])):=by
  intro n
  induction n with
  |zero=>rfl
  |succ n ih=>rw[List.replicate_succ,List.flatten_cons,ih];rfl
 rw[this];simp[partP,pvC,S]
theorem partP_len(l:List V)(i:Nat)(h:i≤l.length):(partP l i).length=l.length:=by simp[partP];omega
theorem partP_end(l:List V):pvC (partP l l.length)=strC (l.map text1):=by simp[partP,strC,Function.comp_def]
theorem partP_succ{l:List V}{i:Nat}{x:V}(h:l[i]?=some x):List.take i (pvC (partP l i))++[TV.pv (.v (.string (str (text1 x))))]++List.drop (i+1) (pvC (partP l i))=pvC (partP l (i+1)):=by
 have hi:i<l.length:=(gJ h).1;rw[pvC_set (by rw[partP_len l i (by omega)];exact hi)];congr 1;have hl:((l.take i).map (fun x=>PV.v (.string (str (text1 x))))).length=i:=by simp;omega
 unfold partP;rw[List.set_append_right _ _ (by omega),hl,Nat.sub_self,List.take_add_one,h,show l.length-i=(l.length-(i+1))+1 by omega,List.replicate_succ,List.set_cons_zero];simp
theorem written_ok(m:Nat)(x:V)(h:rightV x=true):SCalls Tryz.prog (glT m) 51 [tv x] [] (S (str (textV x))) []:=by
 unfold textV;by_cases h5:x.k=5
 ·rw[if_pos h5];obtain⟨hn,hs,h12,hr⟩:=z64 h h5;obtain⟨k,n,s,l⟩:=x;simp only[Vk,Vn,Vs,Vl]at h5 hn hs h12 hr ⊢;subst h5;subst hn;subst hs;have hlen:=headT_len l (fun y hy=>(hr y hy).2);have hj:=headT_join l;have HJ:=join_ok m (l.map text1) [32] (by rw[List.length_map];omega) (by
   have:=congrArg List.length hj;rw[List.length_append]at this;omega)
  rw[List.length_map,←partP_end]at HJ;refine z8 hmix tf_66 rfl ?_;simp only[vcA,seval,vV];refine⟨⟨by omega,by unfold maxLen;omega⟩,?_⟩;rw[←partP_0];refine v_loop (σ:={i:Nat // i≤l.length}) (fun i=>⟨[(4,.bs 40 0 l.length l.length),(42,.pv (.sl 4 (V.rows l))),(43,I (l.length:Int)),(44,I (i.1:Int))],[(40,pvC (partP l i.1))],[],[]⟩) (fun i=>l.length-i.1) ⟨0,by omega⟩ ?_ ?_
  ·apply lw_of<;>simp[leL,lk,sv,Nat.beq,I,S,ES.kill,has,drp,nilT,pvC_fgt]
  rintro⟨i,hi⟩;by_cases hlt:i<l.length
  ·have d1:(i:Int)<(l.length:Int):=by omega
   obtain⟨y,ey⟩:∃y,l[i]?=some y:=⟨_,gE hlt⟩
   have HW:=written1_ok m y (hr y (gM ey)).2;have w1:IntKind.i64.wrap ((i:Int)+1)=((i+1:Nat):Int):=by rw[wrap64 (by omega) (by omega)];omega
   have pl:=partP_len l i hi;have ps:=partP_succ ey;simp only[vcA,seval,vV,d1,ey];(with_reducible apply v_call);exact kv;rfl;exact HW;exact km;exact kv;simp only[vcA,seval,vV,pl,w1,Nat.mul_one,ps];refine⟨by omega,by omega,z11 ⟨i+1,by omega⟩ (by show l.length-(i+1)<l.length-i;omega) ?_⟩;apply lw_of<;>simp[leL,lk,sv,Nat.beq,I,S,ES.kill,has,drp,nilT]
  ·have d1:¬(i:Int)<(l.length:Int):=by omega
   obtain rfl:i=l.length:=by omega
   simp only[vcA,seval,vV,d1];(with_reducible apply v_call);exact kv;rfl;exact HJ;exact km;exact kv;simp only[vcA,seval,vV,q91,q93];rw[hj];have:=congrArg List.length hj;rw[List.length_append]at this;exact⟨by omega,by omega,rfl⟩
 ·rw[if_neg h5];exact written1_ok m x (z65 h h5)
def textTVv(x:V):TV:=if rightV x then .tuple [S (str (textV x)),I 0] else .tuple [S (str []),I 30]
theorem valText_ok'(m:Nat)(x:V)(hx:VOk x):SCalls Tryz.prog (glT m) 16 [tv x] [] (textTVv x) []:=by
 refine z8 hmix tf_44 rfl ?_;have HR:=sc_0T (z121 m x hx);unfold textTVv B at*;cases hr:rightV x
 ·rw[hr]at HR;simp only[vcA,seval,vV];(with_reducible apply v_call);exact kv;rfl;exact HR;exact km;exact kv;simp only[vcA,seval,vV];rfl
 ·rw[hr]at HR;have HW:=written_ok m x hr;simp only[vcA,seval,vV];(with_reducible apply v_call);exact kv;rfl;exact HR;exact km;exact kv;simp only[vcA,seval,vV];(with_reducible apply v_call);exact kv;rfl;exact HW;exact km;exact kv;simp only[vcA,seval,vV]
end Go.Proofs.YtcpaleaajdilgaaGreatDoor
end

section
namespace Go.Proofs.YtcpaleaajdilgaaGreatDoor
open Go Go.Mor
structure Tri(p q r:Int):Prop where
 a: -1≤p∧p≤1
 b: -1≤q∧q≤1
 c: -1≤r∧r≤1
 d:p=0→r=q
 e:q=0→r=p
 f:p= -1→q= -1→r= -1
 g:p=1→q=1→r=1
theorem ordI_anti(a b:Int):ordI b a= -ordI a b:=by
 unfold ordI;(repeat' split)<;>omega
def lexB:List UInt8→List UInt8→Int
 |[],[]=>0
 |[],_::_=> -1
 |_::_,[]=>1
 |a::x,b::y=>thenI (ordI a.toNat b.toNat) (lexB x y)
theorem ordS_lex:∀(x y:List UInt8),ordS x y=lexB x y
 |[],[]=>by simp[ordS,lexB,Op.bytesLess]
 |[],b::y=>by simp[ordS,lexB,Op.bytesLess]
 |a::x,[]=>by simp[ordS,lexB,Op.bytesLess]
 |a::x,b::y=>by
  have ih:=ordS_lex x y;simp only[lexB,←ih];unfold ordS ordI thenI;simp only[Op.bytesLess];have hlt:(a<b) ↔ a.toNat<b.toNat:=UInt8.lt_iff_toNat_lt;have heq:(a=b) ↔ a.toNat=b.toNat:=⟨fun h=>by rw[h],fun h=>UInt8.toNat_inj.1 h⟩
  by_cases h1:a.toNat<b.toNat
  ·have:a<b:=hlt.2 h1;simp[this];omega
  ·have n1:¬a<b:=fun h=>h1 (hlt.1 h);by_cases h2:a=b
   ·subst h2;simp
   ·have n2:¬a.toNat=b.toNat:=fun h=>h2 (heq.2 h);have h3:b.toNat<a.toNat:=by omega
    simp[n1,h2];omega
theorem z108{a b c d:Int}(h:b= -a)(h':d= -c):thenI b d= -thenI a c:=by
 unfold thenI;(repeat' split)<;>omega
theorem lexB_anti:∀(x y:List UInt8),lexB y x= -lexB x y
 |[],[]=>by simp[lexB]
 |[],b::y=>by simp[lexB]
 |a::x,[]=>by simp[lexB]
 |a::x,b::y=>by simp only[lexB];exact z108 (ordI_anti _ _) (lexB_anti x y)
theorem ordS_anti(a b:List UInt8):ordS b a= -ordS a b:=by rw[ordS_lex,ordS_lex];exact lexB_anti a b
theorem cmpL_anti:∀(x y:List V),(∀a∈x,∀b,cmpV b a= -cmpV a b)→cmpL y x= -cmpL x y
 |[],[],_=>by simp[cmpL]
 |[],b::y,_=>by simp[cmpL]
 |a::x,[],_=>by simp[cmpL]
 |a::x,b::y,h=>by simp only[cmpL];exact z108 (h a (by simp) b) (cmpL_anti x y fun c hc=>h c (by simp[hc]))
theorem cmpV_antiN(n:Nat):∀x y:V,SizeOf.sizeOf x≤n→cmpV y x= -cmpV x y:=by
 induction n with
 |zero=>intro x y h;cases x;simp at h
 |succ n ih=>
  intro x y h;rw[cmpV_eq x y,cmpV_eq y x];refine z108 (ordI_anti _ _) (z108 (ordI_anti _ _) (z108 (ordS_anti _ _) (cmpL_anti _ _ fun a ha b=>ih a b ?_)));have:=List.sizeOf_lt_of_mem ha;cases x;simp[V.l]at h this ⊢;omega
theorem cmpV_anti(x y:V):cmpV y x= -cmpV x y:=cmpV_antiN _ x y (Nat.le_refl _)
theorem cmpV_self(x:V):cmpV x x=0:=by have:=cmpV_anti x x;omega
end Go.Proofs.YtcpaleaajdilgaaGreatDoor
end

section
namespace Go.Mor
open Go Go.RowKit
set_option maxHeartbeats 1000000
abbrev Rd(α:Type):Type:=List UInt8→Int→Option (α×Int)
def Rd.bind{α β:Type}(r:Rd α)(f:α→Rd β):Rd β:=fun s a=>match r s a with|none=>none|some (v,b)=>f v s b
def Rd.ret{α:Type}(v:α):Rd α:=fun _ a=>some (v,a)
def Enc{α:Type}(r:Rd α)(e:List UInt8)(v:α):Prop:=∀pre post:List UInt8,r (pre++e++post) pre.length=some (v,((pre.length+e.length:Nat):Int))
def Cuts{α:Type}(r:Rd α):Prop:=∀(s:List UInt8) (a:Int) (v:α) (b:Int) (k:Nat),r s a=some (v,b)→a≤k→a≤b∧(b≤k→r (s.take k) a=some (v,b))∧(k<b→r (s.take k) a=none)
theorem Enc.bind{α β:Type}{r:Rd α}{f:α→Rd β}{e1 e2:List UInt8}{v1:α}{v2:β}(h1:Enc r e1 v1)(h2:Enc (f v1) e2 v2):Enc (r.bind f) (e1++e2) v2:=by
 intro pre post;have a:=h1 pre (e2++post);have b:=h2 (pre++e1) post;rw[show pre++(e1++e2)++post=pre++e1++(e2++post) by simp,Rd.bind,a];simp only[List.append_assoc,List.length_append]at b ⊢;rw[b];congr 3;omega
theorem Enc.ret{α:Type}(v:α):Enc (Rd.ret v) [] v:=fun pre post=>by simp[Rd.ret]
theorem Cuts.bind{α β:Type}{r:Rd α}{f:α→Rd β}(h1:Cuts r)(h2:∀v,Cuts (f v)):Cuts (r.bind f):=by
 intro s a v b k h hk;unfold Rd.bind at h ⊢;cases hr:r s a with
 |none=>rw[hr]at h;cases h
 |some p=>
  obtain⟨v1,b1⟩:=p;rw[hr]at h
  dsimp only at h
  obtain⟨g1,g2,g3⟩:=h1 s a v1 b1 k hr hk;by_cases hb:b1≤k
  ·obtain⟨j1,j2,j3⟩:=h2 v1 s b1 v b k h hb;rw[g2 hb];exact⟨by omega,j2,j3⟩
  ·obtain⟨j1,_,_⟩:=h2 v1 s b1 v b b1.toNat h (by omega);rw[g3 (by omega)];exact⟨by omega,fun h=>by omega,fun _=>rfl⟩
theorem Cuts.ret{α:Type}(v:α):Cuts (Rd.ret v):=by
 intro s a v' b k h hk;simp only[Rd.ret,Option.some.injEq,Prod.mk.injEq]at h ⊢;obtain⟨rfl,rfl⟩:=h;exact⟨by omega,fun _=>⟨rfl,rfl⟩,fun h=>by omega⟩
def cont:List UInt8→List UInt8
 |[]=>[]
 |[g]=>[g]
 |g::r=>(g+128)::cont r
theorem cont_snoc(l:List UInt8)(g:UInt8):cont (l++[g])=l.map (·+128)++[g]:=by
 induction l with
 |nil=>rfl
 |cons a r ih=>
  cases r with
  |nil=>rfl
  |cons b q=>simp only[List.cons_append,cont,List.map_cons]at ih ⊢;rw[ih]
theorem pack_cont(l:List UInt8):pack l=cont l:=by
 rcases List.eq_nil_or_concat l with rfl|⟨q,g,rfl⟩
 ·rfl
 ·rw[List.concat_eq_append,cont_snoc];have:∀(n:Nat) (q:List UInt8) (g:UInt8),q.length=n→pack (q++[g])=q.map (·+128)++[g]:=by
   intro n
   induction n with
   |zero=>intro q g hq;obtain rfl:=List.eq_nil_of_length_eq_zero hq;rfl
   |succ n ih=>
    intro q g hq;rcases List.eq_nil_or_concat q with rfl|⟨p,a,rfl⟩
    ·simp at hq
    ·rw[List.concat_eq_append]at hq ⊢;rw[pack_snoc,ih p a (by simp at hq;omega),bump_snoc];simp
  exact this q.length q g rfl
theorem rdGo_last{k:Nat}{b:UInt8}(st:Nat×Nat)(r:List UInt8)(hk:k≠0)(h0:b.toNat≠0)(h9:k=9→b.toNat≤1)(hb:b.toNat<128):rdGo k st (b::r)=.ok (st.1+b.toNat*2 ^ (7*k-1),st.2,k+1):=by
 rw[rdGo,if_neg (by rintro⟨_,h|⟨h,h'⟩⟩<;>omega)];simp only[hk,if_false,hb,if_true,Nat.mod_eq_of_lt hb]
theorem rdGo_more{k:Nat}{b:UInt8}(st:Nat×Nat)(r:List UInt8)(hk:k≠0)(h9:k≠9)(hb:128≤b.toNat):rdGo k st (b::r)=rdGo (k+1) (st.1+b.toNat%128*2 ^ (7*k-1),st.2) r:=by
 rw[rdGo,if_neg (by rintro⟨_,h|⟨h,h'⟩⟩<;>omega)];have:¬b.toNat<128:=by omega
 simp only[hk,if_false,this]
theorem rdGo_last0{b:UInt8}(st:Nat×Nat)(r:List UInt8)(hb:b.toNat<128):rdGo 0 st (b::r)=.ok (b.toNat / 2,b.toNat%2,1):=by
 rw[rdGo,if_neg (by simp)];simp only[if_true,hb,Nat.mod_eq_of_lt hb]
theorem rdGo_more0{b:UInt8}(st:Nat×Nat)(r:List UInt8)(hb:128≤b.toNat):rdGo 0 st (b::r)=rdGo 1 (b.toNat%128 / 2,b.toNat%128%2) r:=by
 rw[rdGo,if_neg (by simp)];have:¬b.toNat<128:=by omega
 simp only[if_true,this,if_false]
theorem rdGo_tail : ∀ (f k : Nat) (st : Nat × Nat) (m : Nat) (rest : List UInt8), m ≠ 0 → 1 ≤ k → k + f = 10 → m < 2 ^ (64 - 7 * k) →
    rdGo k st (cont (tailN f m) ++ rest) = .ok (st.1 + m * 2 ^ (7 * k - 1), st.2, k + (tailN f m).length) := by
  intro f
  induction f with
  | zero => intro k st m rest hm h1 h2 h3; obtain rfl : k = 10 := by omega
            simp at h3; omega
  | succ f ih =>
    intro k st m rest hm h1 h2 h3
    have hb : (UInt8.ofNat (m % 128)).toNat = m % 128 := by rw [UInt8.toNat_ofNat']; omega
    rw [tailN, if_neg hm]
    by_cases hd : m / 128 = 0
    · rw [hd, tailN_zero]
      simp only [cont, List.cons_append, List.nil_append]
      have hm' : m % 128 = m := by omega
      rw [rdGo_last st rest (by omega) (by rw [hb]; omega) (by rintro rfl; rw [hb]; simp at h3; omega) (by rw [hb]; omega), hb, hm']
      simp
    · have hk9 : k ≠ 9 := by rintro rfl; simp at h3; omega
      obtain ⟨x, r, hx⟩ : ∃ x r, tailN f (m / 128) = x :: r := by
        obtain ⟨f', rfl⟩ : ∃ f', f = f' + 1 := ⟨f - 1, by omega⟩
        rw [tailN, if_neg hd]; exact ⟨_, _, rfl⟩
      have hcn : cont (UInt8.ofNat (m % 128) :: tailN f (m / 128)) = (UInt8.ofNat (m % 128) + 128) :: cont (tailN f (m / 128)) := by rw [hx]; rfl
      rw [hcn, List.cons_append]
      have hbb : (UInt8.ofNat (m % 128) + 128).toNat = m % 128 + 128 := by
        rw [UInt8.toNat_add, hb]; show (m % 128 + 128) % 256 = _; omega
      rw [rdGo_more st _ (by omega) hk9 (by rw [hbb]; omega), hbb]
      have hp : (2 : Nat) ^ (64 - 7 * k) = 2 ^ (64 - 7 * (k + 1)) * 128 := by
        rw [show 64 - 7 * k = (64 - 7 * (k + 1)) + 7 by omega, Nat.pow_add]
      rw [ih (k + 1) _ (m / 128) rest hd (by omega) (by omega) (by rw [hp] at h3; omega)]
      have hq : (2 : Nat) ^ (7 * (k + 1) - 1) = 128 * 2 ^ (7 * k - 1) := by
        rw [show 7 * (k + 1) - 1 = 7 + (7 * k - 1) by omega, Nat.pow_add]
      simp only [List.length_cons]
      congr 2
      · rw [hq, show (m % 128 + 128) % 128 = m % 128 by omega]
        generalize 2 ^ (7 * k - 1) = Q
        have : m * Q = (m % 128) * Q + (m / 128) * (128 * Q) := by
          conv => lhs; rw [show m = m % 128 + 128 * (m / 128) by omega]
          rw [Nat.add_mul, Nat.mul_comm 128 (m / 128), Nat.mul_assoc]
        omega
      · congr 1; omega
theorem rd_num(x:Int)(h0: -9223372036854775808≤x)(h1:x≤9223372036854775807)(pre post:List UInt8):rd (pre++num x++post) pre.length=.ok (x,(num x).length):=by
 have hm:=mag_lt x h0 h1;have hpos:=num_pos x;unfold rd;rw[if_pos (by simp;omega)];have hd:List.drop (pre.length:Int).toNat (pre++num x++post)=num x++post:=by
  rw[show(pre.length:Int).toNat=pre.length by omega,List.append_assoc,List.drop_left]
 have hnl:(num x).length=1+(tailN 9 (mag x / 64)).length:=by rw[num,z110];simp[groups];omega
 rw[hd,hnl,num,pack_cont,groups];have hs:sgn x≤1:=by unfold sgn;split<;>omega
 have hb:(UInt8.ofNat (mag x%64*2+sgn x)).toNat=mag x%64*2+sgn x:=by rw[UInt8.toNat_ofNat'];omega
 have key:rdGo 0 (0,0) (cont (UInt8.ofNat (mag x%64*2+sgn x)::tailN 9 (mag x / 64))++post)=.ok (mag x,sgn x,1+(tailN 9 (mag x / 64)).length):=by
  by_cases hz:mag x / 64=0
  ·rw[hz,tailN_zero];simp only[cont,List.cons_append,List.nil_append];rw[rdGo_last0 _ _ (by rw[hb];omega),hb];congr 2
   ·omega
   ·congr 1;omega
  ·obtain⟨y,r,hx⟩:∃y r,tailN 9 (mag x / 64)=y::r:=by
    rw[show(9:Nat)=8+1 from rfl,tailN,if_neg hz];exact⟨_,_,rfl⟩
   have hcn:cont (UInt8.ofNat (mag x%64*2+sgn x)::tailN 9 (mag x / 64))=(UInt8.ofNat (mag x%64*2+sgn x)+128)::cont (tailN 9 (mag x / 64)):=by rw[hx];rfl
   have hbb:(UInt8.ofNat (mag x%64*2+sgn x)+128).toNat=mag x%64*2+sgn x+128:=by
    rw[UInt8.toNat_add,hb];show(_+128)%256=_;omega
   rw[hcn,List.cons_append,rdGo_more0 _ _ (by rw[hbb];omega),hbb];rw[rdGo_tail 9 1 _ _ post hz (by omega) (by omega) (by show mag x / 64<144115188075855872;omega)];congr 2
   ·show(mag x%64*2+sgn x+128)%128 / 2+mag x / 64*64=mag x;omega
   ·congr 1;show(mag x%64*2+sgn x+128)%128%2=sgn x;omega
 rw[key]
 dsimp only
 congr 2
 ·unfold sgn mag;split<;>simp<;>omega
theorem enc_num(x:Int)(h0: -9223372036854775808≤x)(h1:x≤9223372036854775807):Enc z35 (num x) x:=by
 intro pre post;rw[z35,rd_num x h0 h1];simp
theorem enc_text(t:List UInt8)(ht:t.length≤10000):Enc z29 (text t) t:=by
 intro pre post;have h:=rd_num t.length (by omega) (by omega) pre (t++post);rw[show pre++text t++post=pre++num t.length++(t++post) by simp[text],z29,rdW,h]
 dsimp only
 rw[if_neg (by omega),if_neg (by simp;omega)]
 dsimp only
 rw[show((pre.length:Int)+((num t.length).length:Nat)).toNat=(pre++num t.length).length by simp;omega,List.drop_left,show((t.length:Int)).toNat=t.length by omega,List.take_left];simp[text];omega
end Go.Mor
end

section
namespace Go.Proofs.YtcpaleaajdilgaaGreatDoor
open Go Go.RowKit Go.Mor Go.Sh Go.Sh.Cd1
set_option maxRecDepth 100000
set_option maxHeartbeats 4000000
theorem encV_len{x:V}(h:rightV x=true):(encV x).length≤980∧0<(encV x).length:=by
 by_cases h5:x.k=5
 ·obtain⟨h1,h2,h3,h4⟩:=z64 h h5;have:=encTo_len (l:=x.l) (fun y hy=>(right1_ok (h4 y hy).2).1.2.2) x.l.length;rw[encTo_all x h5]at this;refine⟨by omega,?_⟩;have:=num_pos 5;unfold encV;rw[if_pos h5];simp;omega
 ·have:=enc1_len (right1_ok (z65 h h5)).1.2.2;unfold encV;rw[if_neg h5];refine⟨by omega,?_⟩;have:=num_pos x.k;unfold enc1;simp;omega
end Go.Proofs.YtcpaleaajdilgaaGreatDoor
end

section
namespace Go.Proofs.YtcpaleaajdilgaaGreatDoor
open Go Go.Mor
abbrev Rx(α:Type):=List UInt8→Int→Except Int (α×Int)
def bindE{α β:Type}(r:Rx α)(f:α→Rx β):Rx β:=fun s a=>match r s a with| .ok (x,b)=>f x s b| .error e=> .error e
def EncE{α:Type}(r:Rx α)(e:List UInt8)(v:α):Prop:=∀pre post:List UInt8,r (pre++e++post) pre.length=.ok (v,((pre.length+e.length:Nat):Int))
def CutE{α:Type}(r:Rx α):Prop:=∀(s:List UInt8) (a:Int) (v:α) (b:Int) (k:Nat),r s a=.ok (v,b)→a≤k→a≤b∧(b≤k→r (s.take k) a=.ok (v,b))∧(k<b→r (s.take k) a=.error 10)
theorem EncE.bind{α β:Type}{r:Rx α}{f:α→Rx β}{e1 e2:List UInt8}{v1:α}{v2:β}(h1:EncE r e1 v1)(h2:EncE (f v1) e2 v2):EncE (bindE r f) (e1++e2) v2:=by
 intro pre post;unfold bindE;have a1:=h1 pre (e2++post);have a2:=h2 (pre++e1) post;rw[show pre++(e1++e2)++post=pre++e1++(e2++post) by simp,a1];simp only[];rw[show pre++e1++(e2++post)=pre++e1++e2++post by simp,show pre.length+e1.length=(pre++e1).length by simp,a2];simp[Nat.add_assoc]
theorem CutE.bind{α β:Type}{r:Rx α}{f:α→Rx β}(h1:CutE r)(h2:∀v,CutE (f v)):CutE (bindE r f):=by
 intro s a v b k h hk;unfold bindE at h ⊢;cases hr:r s a with
 |error e=>rw[hr]at h;cases h
 |ok q=>
  obtain⟨x,c⟩:=q;rw[hr]at h;simp only[]at h;obtain⟨p1,p2,p3⟩:=h1 s a x c k hr hk;have hc:c≤b:=(h2 x s c v b c.toNat h (by omega)).1;refine⟨by omega,fun hb=> ?_,fun hb=> ?_⟩
  ·rw[p2 (by omega)];exact(h2 x s c v b k h (by omega)).2.1 hb
  ·by_cases hck:c≤k
   ·rw[p2 hck];exact(h2 x s c v b k h hck).2.2 hb
   ·rw[p3 (by omega)]
theorem CutE.ret{α:Type}(v:α):CutE (fun _ a=> .ok (v,a)):=by
 intro s a w b k h hk;cases h;exact⟨Int.le_refl _,fun _=>rfl,fun h=>by omega⟩
theorem z73{x lo hi:Int}(hx:I64 x)(h1:lo≤x)(h2:x≤hi):EncE (fun s a=>dNum s a lo hi) (num x) x:=by
 intro pre post;show dNum _ _ _ _=_;unfold dNum;rw[enc_num x hx.1 hx.2 pre post];simp only[];rw[if_neg (by omega)]
theorem encE_text{t:List UInt8}(h:z15 t=true):EncE dText (text t) t:=by
 intro pre post;unfold dText;rw[enc_text t (by have:=z67 h;omega) pre post];simp only[];rw[if_pos h]
theorem EncE.ret{α:Type}(v:α):EncE (fun _ a=> .ok (v,a)) [] v:=fun pre post=>by simp
theorem dRest_eq(k:Int):(fun s b=>dRest s k b)=(if k=1 then bindE (fun s b=>dNum s b (-1000000000000000) 1000000000000000) (fun n=>fun _ c=> .ok (.mk 1 n [] [],c))
  else if k=2 then bindE dText (fun t=>fun _ c=> .ok (.mk 2 0 t [],c))
  else if k=3∨k=4 then bindE (fun s b=>dNum s b (-20) 100000) (fun n=>if n=0 then(fun _ _=> .error 30)else(fun _ c=> .ok (.mk k n [] [],c)))
  else(fun _ b=> .ok (.mk k 0 [] [],b))):=by
 funext s b;unfold dRest;by_cases e1:k=1
 ·simp only[e1,if_true,bindE];cases dNum s b (-1000000000000000) 1000000000000000<;>rfl
 by_cases e2:k=2
 ·rw[if_neg e1,if_neg e1,if_pos e2,if_pos e2];unfold bindE;cases dText s b<;>rfl
 by_cases e3:k=3∨k=4
 ·simp only[e1,e2,e3,if_true,if_false,bindE];cases dNum s b (-20) 100000 with
  |error e=>rfl
  |ok q=>obtain⟨n,c⟩:=q;simp only[];split<;>rfl
 ·simp only[e1,e2,e3,if_false]
theorem dVal1_eq:dVal1=bindE (fun s a=>dNum s a 0 4) (fun k=>fun s b=>dRest s k b):=by
 funext s a;simp only[dVal1,bindE];cases dNum s a 0 4<;>rfl
theorem dLoop_eq(n:Nat)(l:List V):(fun s a=>dLoop s (n+1) a l)=bindE dVal1 (fun v=>fun s b=>dLoop s n b (l++[v])):=by
 funext s a;simp only[dLoop,bindE];cases dVal1 s a<;>rfl
theorem dItems_eq:dItems=bindE (fun s a=>dNum s a 0 12) (fun n=>fun s b=>dLoop s n.toNat b []):=by
 funext s a;simp only[dItems,bindE];cases dNum s a 0 12<;>rfl
theorem dVal_eq:dVal=bindE (fun s a=>dNum s a 0 5) (fun k=>if k=5 then bindE dItems (fun l=>fun _ c=> .ok (.mk 5 0 [] l,c))else fun s b=>dRest s k b):=by
 funext s a;simp only[dVal,bindE];cases dNum s a 0 5 with
 |error e=>rfl
 |ok q=>
  obtain⟨k,b⟩:=q;simp only[];by_cases h5:k=5
  ·rw[if_pos h5,if_pos h5];simp only[bindE];cases dItems s b<;>rfl
  ·rw[if_neg h5,if_neg h5]
theorem encE_one{x:V}(h:right1 x=true)(hi:Int)(hh:4≤hi):EncE (bindE (fun s a=>dNum s a 0 hi) (fun k=>fun s b=>dRest s k b)) (enc1 x) x:=by
 have hok:=(right1_ok h).1;rcases z87 h with rfl|⟨n,h1,h2,rfl⟩|⟨s,h1,rfl⟩|⟨k,n,hk,h1,rfl⟩
 ·have he:enc1 (.mk 0 0 [] [])=num 0++[]:=rfl;rw[he];refine(z73 (by unfold I64;decide) (by decide) (by omega)).bind ?_;rw[dRest_eq];exact EncE.ret _
 ·have he:enc1 (.mk 1 n [] [])=num 1++(num n++[]):=by rw[List.append_nil];rfl
  rw[he];refine(z73 (by unfold I64;decide) (by decide) (by omega)).bind ?_;rw[dRest_eq,if_pos rfl];exact(z73 hok.2.1 h1 h2).bind (EncE.ret _)
 ·have he:enc1 (.mk 2 0 s [])=num 2++(text s++[]):=by rw[List.append_nil];rfl
  rw[he];refine(z73 (by unfold I64;decide) (by decide) (by omega)).bind ?_;rw[dRest_eq,if_neg (by decide),if_pos rfl];exact(encE_text h1).bind (EncE.ret _)
 ·have hid:=z92 h1;have he:enc1 (.mk k n [] [])=num k++(num n++[]):=by
   unfold enc1;rw[Vk,Vn,if_pos (by omega),List.append_nil]
  rw[he];refine(z73 (x:=k) hok.1 (by omega) (by omega)).bind ?_;rw[dRest_eq,if_neg (by omega),if_neg (by omega),if_pos hk];refine(z73 (x:=n) hok.2.1 (by omega) (by omega)).bind ?_;rw[if_neg (by omega)];exact EncE.ret _
theorem encE_val1{x:V}(h:right1 x=true):EncE dVal1 (enc1 x) x:=by rw[dVal1_eq];exact encE_one h 4 (by decide)
theorem encE_loop:∀(l acc:List V),(∀y∈l,right1 y=true)→EncE (fun s a=>dLoop s l.length a acc) (l.flatMap enc1) (acc++l)
 |[],acc,_=>by simp only[List.length_nil,dLoop,List.flatMap_nil,List.append_nil];exact EncE.ret _
 |y::l,acc,h=>by
  rw[List.length_cons,dLoop_eq,List.flatMap_cons];refine(encE_val1 (h y (by simp))).bind ?_;have:=encE_loop l (acc++[y]) (fun z hz=>h z (by simp[hz]));rw[List.append_assoc]at this;exact this
theorem encE_val{x:V}(h:rightV x=true):EncE dVal (encV x) x:=by
 by_cases h5:x.k=5
 ·obtain⟨h1,h2,h3,h4⟩:=z64 h h5;have he:encV x=num 5++((num x.l.length++x.l.flatMap enc1)++[]):=by unfold encV;rw[if_pos h5];simp
  have hx:x=.mk 5 0 [] x.l:=by conv=>lhs;rw[←V.eta x,h5,h1,h2]
  rw[he,dVal_eq];refine(z73 (by unfold I64;decide) (by decide) (by decide)).bind ?_;rw[if_pos rfl];have hI:EncE dItems (num x.l.length++x.l.flatMap enc1) x.l:=by
   rw[dItems_eq];refine(z73 (by unfold I64;omega) (by omega) (by omega)).bind ?_;have:=encE_loop x.l [] (fun y hy=>(h4 y hy).2);rw[Int.toNat_natCast];simpa using this
  have:=hI.bind (β:=V) (f:=fun l=>fun _ c=> .ok (V.mk 5 0 [] l,c)) (EncE.ret (V.mk 5 0 [] x.l));rw[←hx]at this;exact this
 ·have hr:=z65 h h5;have he:encV x=enc1 x:=by unfold encV;rw[if_neg h5]
  rw[he];have h0:=encE_one hr 5 (by decide);intro pre post;have:=h0 pre post;rw[dVal_eq];simp only[bindE]at this ⊢;cases hn:dNum (pre++enc1 x++post) pre.length 0 5 with
  |error e=>rw[hn]at this;cases this
  |ok q=>
   obtain⟨k,b⟩:=q;rw[hn]at this;simp only[]at this ⊢;have hk5:k≠5:=by
    intro hk;have hd:=(dNum_inv hn).1;have hhd:∃r,enc1 x=num x.k++r:=⟨_,rfl⟩
    obtain⟨r,hr'⟩:=hhd;have hok:=(right1_ok hr).1.1;have:=enc_num x.k hok.1 hok.2 pre (r++post);rw[show pre++num x.k++(r++post)=pre++enc1 x++post by rw[hr'];simp,hd]at this;cases this;exact h5 hk
   rw[if_neg hk5];exact this
end Go.Proofs.YtcpaleaajdilgaaGreatDoor
end

section
namespace Go.Proofs.YtcpaleaajdilgaaGreatDoor
open Go Go.RowKit Go.Mor Go.Sh Go.Sh.Cd1 Go.Sh.Cd2
set_option maxRecDepth 100000
set_option maxHeartbeats 4000000
def intR(l:List Int):List (List PV):=l.map fun n=>[.v (.int .i64 n)]
theorem intR_len(l:List Int):(intR l).length=l.length:=by simp[intR]
theorem intR_app(l:List Int)(n:Int):intR l++[[.v (.int .i64 n)]]=intR (l++[n]):=by simp[intR]
def numsL(l:List V)(k:Int):List Int:=(l.filter fun y=>decide (y.k=k)).map V.n
def numsV(x:V)(k:Int):List Int:=if rightV x then(if x.k=k then [x.n] else numsL x.l k)else []
theorem numsL_succ{l:List V}{i:Nat}{y:V}(k:Int)(h:l[i]?=some y):numsL (l.take (i+1)) k=numsL (l.take i) k++(if y.k=k then [y.n] else []):=by
 unfold numsL;rw[List.take_add_one,h,List.filter_append,List.map_append];congr 1;by_cases hk:y.k=k<;>simp[hk]
theorem numsL_len(l:List V)(k:Int):(numsL l k).length≤l.length:=by unfold numsL;rw[List.length_map];exact List.length_filter_le _ _
theorem numbers_ok(m:Nat)(x:V)(k:Int)(hx:VOk x):SCalls Tryz.prog (gl0 m) 57 [tv x,I k] [] (.pv (.sl 1 (intR (numsV x k)))) []:=by
 have HR:=z121 m x hx;have hm:maxLen=9223372036854775807:=rfl;unfold numsV B at*;cases hr:rightV x
 ·rw[hr]at HR;refine SCalls.out (y:=.pv (.v (.slice none 0 0))) ?_ (wk_nil 1);refine z8 hmix tf_53 rfl ?_;simp only[vcA,seval,vV];(with_reducible apply v_call);exact kv;rfl;exact HR;exact km;exact kv;simp only[vcA,seval,vV]
 rw[hr]at HR;have h12:x.l.length≤12:=by
  by_cases h5:x.k=5
  ·exact(z64 hr h5).2.2.1
  ·obtain⟨_,_,e⟩:=right1_ok (z65 hr h5);rw[e];simp
 rw[if_pos rfl];by_cases hk:x.k=k
 ·rw[if_pos hk];refine z8 hmix tf_53 rfl ?_;simp only[vcA,seval,vV];(with_reducible apply v_call);exact kv;rfl;exact HR;exact km;exact kv;have d:=decide_eq_true hk;simp only[vcA,seval,vV,d];rfl
 ·rw[if_neg hk];refine call_of1 hmix tf_53 rfl rfl ?_;simp only[vcA,seval,vV];(with_reducible apply v_call);exact kv;rfl;exact HR;exact km;exact kv;simp only[vcA,seval,vV,hk];refine v_loop (σ:={i:Nat // i≤x.l.length}) (fun i=>⟨[(1,I k),(5,.own 3000 1 (intR (numsL (x.l.take i.1) k))),(19,.pv (.sl 4 (V.rows x.l))),(20,I (x.l.length:Int)),(21,I (i.1:Int))],[(2,[I x.k,I x.n,S (str x.s),.pv (.sl 4 (V.rows x.l))])],[(3000,(3,1,(numsL (x.l.take i.1) k).length))],[]⟩) (fun i=>x.l.length-i.1) ⟨0,Nat.zero_le _⟩ ?_ ?_
  ·refine ES.Lw.trans ?_ (adT_lw (k:=5) (d:=3000) (e:=3) (W:=1) (.inr (by decide)) rfl);exact lw_eq rfl
  rintro⟨i,hi⟩;have hnl:=numsL_len (x.l.take i) k;rw[List.length_take]at hnl;by_cases hlt:i<x.l.length
  ·have d1:(i:Int)<(x.l.length:Int):=by omega
   obtain⟨y,ey⟩:∃y,x.l[i]?=some y:=⟨_,gE hlt⟩
   have w1:IntKind.i64.wrap ((i:Int)+1)=((i+1:Nat):Int):=by rw[wrap64 (by omega) (by omega)];omega
   have hs:=numsL_succ k ey;by_cases hy:y.k=k
   ·rw[if_pos hy]at hs;simp only[vcA,seval,vV,d1,ey,hy,w1,intR_app,intR_len,hm];refine⟨⟨by omega,by omega⟩,z11 ⟨i+1,by omega⟩ (by show x.l.length-(i+1)<x.l.length-i;omega) ?_⟩;simp only[hs,List.length_append,List.length_singleton];apply lw_of<;>simp[leL,lk,sv,Nat.beq,I,S,ES.kill,has,drp,nilT]
   ·rw[if_neg hy,List.append_nil]at hs;simp only[vcA,seval,vV,d1,ey,hy,w1];refine z11 ⟨i+1,by omega⟩ (by show x.l.length-(i+1)<x.l.length-i;omega) ?_;simp only[hs];apply lw_of<;>simp[leL,lk,sv,Nat.beq,I,S,ES.kill,has,drp,nilT]
  ·have d1:¬(i:Int)<(x.l.length:Int):=by omega
   obtain rfl:i=x.l.length:=by omega
   rw[List.take_length];simp only[vcA,seval,vV,d1]
theorem refs_ok(m:Nat)(x:V)(hx:VOk x):SCalls Tryz.prog (gl0 m) 20 [tv x] [] (.pv (.sl 1 (intR (numsV x 3)))) []:=by
 refine z8 hmix tf_41 rfl ?_;have HN:=numbers_ok m x 3 hx;simp only[vcA,seval,vV];(with_reducible apply v_call);exact kv;rfl;exact HN;exact km;exact kv;simp only[vcA,seval,vV]
theorem weaks_ok(m:Nat)(x:V)(hx:VOk x):SCalls Tryz.prog (gl0 m) 21 [tv x] [] (.pv (.sl 1 (intR (numsV x 4)))) []:=by
 refine z8 hmix tf_45 rfl ?_;have HN:=numbers_ok m x 4 hx;simp only[vcA,seval,vV];(with_reducible apply v_call);exact kv;rfl;exact HN;exact km;exact kv;simp only[vcA,seval,vV]
end Go.Proofs.YtcpaleaajdilgaaGreatDoor
end

section
namespace Go.Proofs.YtcpaleaajdilgaaGreatDoor
open Go Go.RowKit Go.Mor Go.Sh Go.Sh.Cd1 Go.Sh.Cd6
set_option maxRecDepth 100000
set_option maxHeartbeats 8000000
def encs(l:List V)(i:Nat):List UInt8:=(l.take i).flatMap encV
theorem encs_succ{l:List V}{i:Nat}{v:V}(h:l[i]?=some v):encs l (i+1)=encs l i++encV v:=by
 unfold encs;rw[List.take_add_one,h,List.flatMap_append];simp
theorem encs_len{l:List V}(hr:∀v∈l,rightV v=true):∀i,(encs l i).length≤980*i
 |0=>by simp[encs]
 |i+1=>by
  have ih:=encs_len hr i;cases h:l[i]? with
  |none=>
   have:encs l (i+1)=encs l i:=by unfold encs;rw[List.take_add_one,h];simp
   rw[this];omega
  |some v=>
   rw[encs_succ h,List.length_append];have:=(encV_len (hr v (gM h))).1;omega
theorem encs_dec{l:List V}(hr:∀v∈l,rightV v=true){i:Nat}{v:V}(h:l[i]?=some v):dVal (encs l l.length) ((encs l i).length:Int)=.ok (v,((encs l (i+1)).length:Int)):=by
 have hlt:=(gJ h).1;have hs:encs l l.length=encs l i++encV v++(l.drop (i+1)).flatMap encV:=by
  have h1:l=l.take i++v::l.drop (i+1):=by
   have:=List.take_append_drop i l;rw[List.drop_eq_getElem_cons hlt,(gJ h).2]at this;exact this.symm
  unfold encs;rw[List.take_length]
  conv=>lhs;rw[h1]
  rw[List.flatMap_append,List.flatMap_cons,List.append_assoc]
 have:=encE_val (hr v (gM h)) (encs l i) ((l.drop (i+1)).flatMap encV);rw[hs,encs_succ h,List.length_append];exact this
theorem rows_take{l:List V}{i:Nat}{v:V}(h:l[i]?=some v):l.take (i+1)=l.take i++[v]:=by rw[List.take_add_one,h];rfl
theorem fits_rt{v:V}{t:Ty}(h:fitsV v t=true):rightV v=true:=by
 unfold fitsV at h;simp only[Bool.and_eq_true]at h;exact h.1.1.1
theorem classValues_ok(a0 a1:Addr)(m:Nat)(x:Raw)(l:List Int)(hx:RawOk x)(hl:l.length≤9223372036854775807):
  SCalls Tryz.prog (glA a0 a1 m) 3 [rawT x,.pv (.sl 1 (iiR l))] [] (.pv (.v (.bool true))) []:=by
 have HX:=sc_1A (ex4_ok a0 a1 m);have HC:=classOf4_ok (glA a0 a1 m) x hx;have hg:=classOf_good x;have hc6:=hg.len;have HV:=valsOf4_ok (glA a0 a1 m) (z69 x) l 6 (fun _ hf=>hg.type hf) (by omega) hl (by decide);have hvl:=z104 (z69 x).fs l 6;have hfew:=vals_few hg l (many:=6) (by decide);have hrt:∀v∈mkVals (z69 x).fs l 6,rightV v=true:=fun v hv=>by
  obtain⟨i,hi⟩:=List.getElem?_of_mem hv;have hil:=(gJ hi).1;exact fits_rt (vals_fit hg l (many:=6) (by decide) (gE (by omega)) hi)
 have hvc:=vals_check hg l (many:=6) (by decide);have HK:=sc_TA (a0:=a0) (a1:=a1) (sc_0T (classCheck_ok m _ _ (good_ok hg) (fun v hv=>⟨(hfew v hv).2,by have:=(hfew v hv).1.len;unfold maxLen;omega⟩) (by omega)));rw[hvc]at HK;generalize mkVals (z69 x).fs l 6=vals at*;generalize z69 x=c at*;have hel:=encs_len hrt;have HE:=fun v (hv:v∈vals)=>sc_1A (encode_ok a0 a1 m v (hfew v hv).2);have HT:=fun v (hv:v∈vals)=>sc_TA (a0:=a0) (a1:=a1) (valText_ok' m v (hfew v hv).2);have HS:=fun v (hv:v∈vals)=>same_ok (glA a0 a1 m) v v (hfew v hv).1.small;have HF:=fun v (hv:v∈vals)=>sc_TA (a0:=a0) (a1:=a1) (sc_0T (refs_ok m v (hfew v hv).2));have HW:=fun v (hv:v∈vals)=>sc_TA (a0:=a0) (a1:=a1) (sc_0T (weaks_ok m v (hfew v hv).2));have HR:=fun v (hv:v∈vals)=>sc_1A (read_ok a0 a1 m ([91,32]++textV v) 2 (by have:=textV_len (hrt v hv);simp only[List.length_append,List.length_cons,List.length_nil];omega) (by simp only[List.length_append,List.length_cons,List.length_nil];omega)
  (by have:=readV_text (hrt v hv) [91,32] (post:=[]) (by intro c r e;cases e);rwa [List.append_nil]at this))
 have HD:=fun i v (h:vals[i]?=some v)=>sc_1A (decode_ok a0 a1 m (encs vals vals.length) ((encs vals i).length:Int) (by have:=hel vals.length;unfold SmallS;omega) (by omega) (by
  have h1:=encs_succ h;have hlt:=(gJ h).1;have h2:(encs vals i).length≤(encs vals vals.length).length:=by
   unfold encs;rw[List.take_length]
   conv=>rhs;rw[←List.take_append_drop i vals]
   rw[List.flatMap_append,List.length_append];omega
  omega) (encs_dec hrt h))
 unfold checkT at HK;unfold encTV at HE;unfold textTVv at HT;unfold clT rawT tv at*;refine z8 hmix tf_24 rfl ?_;simp only[vcA,seval,vV];(with_reducible apply v_call);exact kv;rfl;exact HX;exact km;exact kv;simp only[vcA,seval,vV];(with_reducible apply v_call);exact kv;rfl;exact HC;exact km;exact kv;simp only[vcA,seval,vV];(with_reducible apply v_call);exact kv;rfl;exact HV;exact km;exact kv;simp only[vcA,seval,vV];refine v_loop (σ:={i:Nat // i≤vals.length}) (fun i=>⟨[(5,.pv (.v (.bool true))),(6,.ptr 6 0),(7,.pv (.sl 4 (V.rows vals))),(8,S (str (encs vals i.1))),(9,I (i.1:Int))],[(6,[S (str c.n),.pv (.sl 4 (flR c.fs))])],[],[]⟩) (fun i=>vals.length-i.1) ⟨0,Nat.zero_le _⟩ ?_ ?_
 ·have q0:(⟨#[]⟩:ByteArray)=str (encs vals 0):=rfl;apply lw_of<;>simp[leL,lk,sv,Nat.beq,I,S,ES.kill,has,drp,nilT,q0]
 rintro⟨i,hi⟩;have w1:i<vals.length→IntKind.i64.wrap ((i:Int)+1)=((i+1:Nat):Int):=fun h=>by rw[wrap64 (by omega) (by omega)];omega
 by_cases hlt:i<vals.length
 ·have d1:(i:Int)<(vals.length:Int):=by omega
  have w1:=w1 hlt;obtain⟨v,ev⟩:∃v,vals[i]?=some v:=⟨_,gE hlt⟩
  have hv:=gM ev;have HEv:=HE v hv;rw[if_pos (hrt v hv)]at HEv;have h1:=hel i;have h2:=(encV_len (hrt v hv)).1;have hs:=encs_succ ev;simp only[vcA,seval,vV,d1,ev];(with_reducible apply v_call);exact kv;rfl;exact HEv;exact km;exact kv;simp only[vcA,seval,vV,w1];refine⟨by omega,?_⟩;refine z11 ⟨i+1,hlt⟩ (by show vals.length-(i+1)<vals.length-i;omega) ?_;simp only[hs];apply lw_of<;>simp[leL,lk,sv,Nat.beq,I,S,ES.kill,has,drp,nilT]
 clear w1;have d1:¬(i:Int)<(vals.length:Int):=by omega
 obtain rfl:i=vals.length:=by omega
 simp only[vcA,seval,vV,d1];have hpl:=hel vals.length;generalize hP:encs vals vals.length=put at*;refine v_loop (σ:={i:Nat // i≤vals.length}) (fun i=>⟨[(5,.pv (.v (.bool true))),(6,.ptr 6 0),(7,.pv (.sl 4 (V.rows vals))),(8,S (str put)),(12,.own 3000 4 (V.rows (vals.take i.1))),(13,.own 3001 4 (V.rows (vals.take i.1))),(14,I ((encs vals i.1).length:Int)),(15,I (i.1:Int))],
  [(6,[S (str c.n),.pv (.sl 4 (flR c.fs))])],[(3000,(37,4,i.1)),(3001,(37,4,i.1))],[]⟩) (fun i=>vals.length-i.1) ⟨0,Nat.zero_le _⟩ ?_ ?_
 ·refine ES.Lw.trans ?_ (show ES.Lw ⟨[(5,.pv (.v (.bool true))),(6,.ptr 6 0),(7,.pv (.sl 4 (V.rows vals))),(8,S (str put)),(12,nilT),(13,nilT),(14,I 0),(15,I 0)],[(6,[S (str c.n),.pv (.sl 4 (flR c.fs))])],[],[]⟩ _ by apply lw_of<;>simp[leL,lk,sv,Nat.beq,I,S,ES.kill,has,drp,nilT]);refine ES.Lw.trans ?_ (adT_lw (k:=12) (d:=3000) (e:=37) (W:=4) (.inr (by decide)) rfl);refine ES.Lw.trans ?_ (adT_lw (k:=13) (d:=3001) (e:=37) (W:=4) (.inr (by decide)) rfl);exact lw_eq rfl
 rintro⟨i,hi⟩;by_cases hlt:i<vals.length
 ·have d1:(i:Int)<(vals.length:Int):=by omega
  have w1:IntKind.i64.wrap ((i:Int)+1)=((i+1:Nat):Int):=by rw[wrap64 (by omega) (by omega)];omega
  obtain⟨v,ev⟩:∃v,vals[i]?=some v:=⟨_,gE hlt⟩
  have hv:=gM ev;have HDv:=HD i v ev;have HTv:=HT v hv;rw[if_pos (hrt v hv)]at HTv;have HRv:=HR v hv;have HSv:=HS v hv;rw[cmpV_self]at HSv;have htl:=textV_len (hrt v hv);have ht:=rows_take ev;have hlen:(vals.take i).length=i:=by rw[List.length_take];omega
  generalize textV v=t at*;have w2:IntKind.i64.wrap (2+(t.length:Int))=2+(t.length:Int):=wrap64 (by omega) (by omega);have q2:(⟨#[91,32]⟩:ByteArray)=str [91,32]:=rfl;simp only[vcA,seval,vV,d1];(with_reducible apply v_call);exact kv;rfl;exact HDv;exact km;exact kv;simp only[vcA,seval,vV,ev];(with_reducible apply v_call);exact kv;rfl;exact HTv;exact km;exact kv;simp only[vcA,seval,vV,q2];refine⟨by omega,?_⟩;(with_reducible apply v_call);exact kv;rfl;exact HRv;exact km;exact kv;have w3:((2+t.length:Nat):Int)=2+(t.length:Int):=by omega
  simp only[vcA,seval,vV,w2,w3,ev];(with_reducible apply v_call);exact kv;rfl;exact HSv;exact km;exact kv;simp only[vcA,seval,vV,hlen,w1];refine⟨⟨by omega,by unfold maxLen;omega⟩,⟨by omega,by unfold maxLen;omega⟩,z11 ⟨i+1,hlt⟩ (by show vals.length-(i+1)<vals.length-i;omega) ?_⟩;simp only[ht,rows_snoc];apply lw_of<;>simp[leL,lk,sv,Nat.beq,I,S,ES.kill,has,drp,nilT]
 have d1:¬(i:Int)<(vals.length:Int):=by omega
 obtain rfl:i=vals.length:=by omega
 rw[List.take_length];simp only[vcA,seval,vV,d1];(with_reducible apply v_call);exact kv;rfl;exact HK;exact km;exact kv;simp only[vcA,seval,vV];(with_reducible apply v_call);exact kv;rfl;exact HK;exact km;exact kv;simp only[vcA,seval,vV];rw[hP];refine v_loop (σ:={i:Nat // i≤vals.length}) (fun i=>⟨[(5,.pv (.v (.bool true))),(7,.pv (.sl 4 (V.rows vals))),(8,S (str put)),(13,.own 3001 4 (V.rows vals)),(14,I (put.length:Int)),(25,I 0),(27,I 0),(28,I (i.1:Int))],
  [],[(3001,(37,4,vals.length))],[]⟩) (fun i=>vals.length-i.1) ⟨0,Nat.zero_le _⟩ ?_ ?_
 ·apply lw_of<;>simp[leL,lk,sv,Nat.beq,I,S,ES.kill,has,drp,nilT]
 rintro⟨i,hi⟩;by_cases hlt:i<vals.length
 ·have d1:(i:Int)<(vals.length:Int):=by omega
  have w1:IntKind.i64.wrap ((i:Int)+1)=((i+1:Nat):Int):=by rw[wrap64 (by omega) (by omega)];omega
  obtain⟨v,ev⟩:∃v,vals[i]?=some v:=⟨_,gE hlt⟩
  have hv:=gM ev;have HFv:=HF v hv;have HWv:=HW v hv;simp only[vcA,seval,vV,d1,ev];(with_reducible apply v_call);exact kv;rfl;exact HFv;exact km;exact kv;simp only[vcA,seval,vV,ev];(with_reducible apply v_call);exact kv;rfl;exact HFv;exact km;exact kv;simp only[vcA,seval,vV,ev];(with_reducible apply v_call);exact kv;rfl;exact HWv;exact km;exact kv;simp only[vcA,seval,vV,ev];(with_reducible apply v_call);exact kv;rfl;exact HWv;exact km;exact kv;simp only[vcA,seval,vV,w1];refine z11 ⟨i+1,hlt⟩ (by show vals.length-(i+1)<vals.length-i;omega) ?_;apply lw_of<;>simp[leL,lk,sv,Nat.beq,I,S,ES.kill,has,drp,nilT]
 have d1:¬(i:Int)<(vals.length:Int):=by omega
 simp only[vcA,seval,vV,d1]
end Go.Proofs.YtcpaleaajdilgaaGreatDoor
end

section
namespace Go.Proofs.YtcpaleaajdilgaaGreatDoor.ClassValues
open Go.ChangeShapes Go.WideShapes Go.ChangeAt Go.RowKit Go.Lib Go.Mor Go.Deep Go.Joins
open Go.ChangeMaps (open_string shut_string)
theorem ClassValues_any(a0 a1:Addr)(W:World)(x0:Raw)(x0v:Value)(x1:List Int)(x1v:Value)(hx0:RawOk x0)(rx0:∀r,Go.Sh.RelT W (envAll W) r (rawT x0) x0v)(hx1:x1.length≤9223372036854775807)(rx1:∀r,Go.Sh.RelT W (envAll W) r (.pv (.sl 1 (iiR x1))) x1v)(hG:(glA a0 a1 W.heap.size).G W):
  Calls Tryz.prog 3 #[x0v,x1v] W fun e w'=>e=.returned (.bool true)∧Below W.heap.size W w':=
 calls_of_sc (vs:=[x0v,x1v]) (classValues_ok a0 a1 W.heap.size x0 x1 hx0 hx1) hG rfl (fun j q u hq hu=>by
  match j with
  |0=>simp at hq hu;subst hq;subst hu;exact rx0 _
  |1=>simp at hq hu;subst hq;subst hu;exact rx1 _
  |j+2=>simp at hq)
theorem witness_row(os:Os){H:Type}(enc:TypeId×Value→H):
  (OpenSpec.ofChange Rows.classValuesSpec).preRow enc Tryz.prog Tryz.f3 Rows.classValuesRow.domain false Rows.classValuesRow.laid ((laidWorld os).forCall (fun _ _=>0) ⟨#[],#[.agg #[.int .i64 0,.slice none 0 0],.slice none 0 0],[]⟩).memory #[.agg #[.int .i64 0,.slice none 0 0],.slice none 0 0]:=by
 have hw:(DataW.whole enc Tryz.prog ((laidWorld os).forCall (fun _ _=>0) ⟨#[],#[.agg #[.int .i64 0,.slice none 0 0],.slice none 0 0],[]⟩).memory Tryz.f3.params.toList Rows.classValuesSpec.vars false (#[.agg #[.int .i64 0,.slice none 0 0],.slice none 0 0]:Array Value).toList 8).map (fun x=>(x.1,x.2.1))=
   some ([.agg [.lit (.int .i64 0),.nil],.nil],[]):=by kernel_rfl
 obtain⟨⟨x1,x2,x3⟩,hx,hx1⟩:=gO hw;simp only[Prod.mk.injEq]at hx1;obtain⟨rfl,rfl⟩:=hx1;exact OpenSpec.preRow_of_cond 8 hx (by kernel_rfl) (fun k hk=>by cases hk) (by kernel_rfl) (laid_metUTW os _)
set_option maxRecDepth 100000 in
set_option maxHeartbeats 2000000 in
theorem lifted(os:Os)(started:os.Started)(H:Type)(enc:TypeId×Value→H)(F:Stop.Interp):
  ReturnsInHanded {} Tryz.checked os 3 .any ((OpenSpec.ofChange Rows.classValuesSpec).preRow enc Tryz.prog Tryz.f3 Rows.classValuesRow.domain false Rows.classValuesRow.laid) (((OpenSpec.ofChange Rows.classValuesSpec).at F).post enc Tryz.prog Tryz.f3 false true false false):=by
 refine returnsInHanded_of_row (C:=Tryz.checked) (s:=(OpenSpec.ofChange Rows.classValuesSpec)) own started (by kernel_rfl) Tryz.func3
  (witness_row_atRef (enc:=enc) (C:=Tryz.checked) false (laidWorld os) #[.agg #[.int .i64 0,.slice none 0 0],.slice none 0 0] rfl (by kernel_rfl) (by kernel_rfl) (by kernel_rfl) (witness_row os enc)) ?_
 intro W base args ds gs before hval0 hW _ hcond _ hL hsh _;have hval:∀(j:Nat) t v,Tryz.f3.params[j]?=some t→args[j]?=some v→Value.okWide Tryz.prog W .any base t v:=hval0;have hW':DataW.Whole enc Tryz.prog Tryz.f3.params.toList Rows.classValuesSpec.vars false W args.toList ds gs before:=hW;obtain⟨p,q,hA0,hV0,rfl,_,_⟩:=hW;have hA:DataW.TrodAll enc Tryz.prog W 0 (fun _=>true) true Tryz.f3.params.toList args.toList ds p:=hA0;rw[Tryz.params3]at hA hval;obtain⟨rfl,rfl⟩:=trodVars_none hV0;clear hA0 hV0 hval0;obtain⟨a0,a1,hG⟩:=glob_of_laidUTW hL hsh;obtain⟨v0,vs0,d0,ds0,p0,q0,hargs,rfl,rfl,h0,r0⟩:=trodAll_cons hA;obtain⟨v1,vs1,d1,ds1,p1,q1,rfl,rfl,rfl,h1,r1⟩:=trodAll_cons r0;obtain⟨rfl,rfl,rfl⟩:=trodAll_nil r1;obtain rfl:args= #[v0,v1]:=by cases args;simp_all
 obtain⟨x0,hx0,rx0⟩:=open_raw4 (hval 0 _ v0 rfl rfl) h0;obtain⟨x1,_,hx1,rx1⟩:=open_nums Tryz.underlying25 Tryz.underlying3 (by kernel_rfl) (hval 1 _ v1 rfl rfl) h1;have hc:=ClassValues_any a0 a1 W x0 v0 x1 v1 hx0 rx0 hx1 rx1 hG;refine(hc).mono ?_;rintro e W' ⟨rfl,hb⟩;exact⟨_,rfl,lifts 3 Tryz.f3 Rows.classValuesSpec rfl (by kernel_rfl) (by kernel_rfl) rfl hW' hb⟩
set_option maxHeartbeats 0 in
theorem closed:joinedFacts Tryz.pinned.checked.prog 3 Tryz.f3 (OpenSpec.ofChange Rows.classValuesSpec).bare Rows.classValuesRow=true:=by
 unfold joinedFacts
 repeat' (with_reducible refine Bool.and_eq_true_iff.2 ⟨?_,?_⟩)
 all_goals(as_aux_lemma=>kernel_rfl)
theorem said:Rows.ClassValuesSaid:=
 OpenClaim.holds_of_cond 3 Tryz.f3 rfl rfl rfl rfl rfl rfl rfl ⟨rfl,rfl,rfl,rfl,rfl⟩ rfl rfl rfl rfl rfl (by kernel_rfl) Tryz.func3 closed
  (of_decide_eq_true (by kernel_rfl)) (by unfold Func.isWrapper;rw[if_neg (of_decide_eq_false (by kernel_rfl))];exact⟨rfl,rfl⟩)
  (fun os started H enc _ F=>by rw[OpenClaim.pre_eq_preRow];exact lifted os started H enc F)
end Go.Proofs.YtcpaleaajdilgaaGreatDoor.ClassValues
end
