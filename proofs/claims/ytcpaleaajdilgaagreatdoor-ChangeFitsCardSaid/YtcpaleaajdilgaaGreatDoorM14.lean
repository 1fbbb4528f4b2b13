/- Merged texts: PRead Zn2 Zn3 Zn4 Zn5 Zn6 Pv1 Pk2 Pk3 Zh5 Zh6 Zh7 Zn7 Own OwnV S32 Zm12 Zf5 Cd2 Zt1 Zo5 Ze27 Zo1. No statement of the program is proved here. -/
import Derived.Test.YtcpaleaajdilgaaGreatDoorM1
import Derived.Test.YtcpaleaajdilgaaGreatDoorM2
import Derived.Test.YtcpaleaajdilgaaGreatDoorM3
import Derived.Test.YtcpaleaajdilgaaGreatDoorM4
import Derived.Test.YtcpaleaajdilgaaGreatDoorM5
import Derived.Test.YtcpaleaajdilgaaGreatDoorM6
import Derived.Test.YtcpaleaajdilgaaGreatDoorM7
import Derived.Test.YtcpaleaajdilgaaGreatDoorM8
import Derived.Test.YtcpaleaajdilgaaGreatDoorM9
import Derived.Test.YtcpaleaajdilgaaGreatDoorM10
import Derived.Test.YtcpaleaajdilgaaGreatDoorM11
import Derived.Test.YtcpaleaajdilgaaGreatDoorM12
import Derived.Test.YtcpaleaajdilgaaGreatDoorM13
import Derived.Laws.AppendOwnNone
import Derived.Deep.AppendLies
import Derived.Deep.RegionLaw
set_option linter.unusedSimpArgs false
set_option linter.unusedVariables false
set_option maxRecDepth 100000
set_option maxHeartbeats 8000000
section
namespace Go.Mor
open Go Go.RowKit
abbrev Rd(α:Type):Type:=zB→Int→Option (α×Int)
def Rd.bind{α β:Type}(r:Rd α)(f:α→Rd β):Rd β:=fun s a=>match r s a with|none=>none|some (v,b)=>f v s b
def Rd.ret{α:Type}(v:α):Rd α:=fun _ a=>some (v,a)
def Rd.fail{α:Type}:Rd α:=fun _ _=>none
def Enc{α:Type}(r:Rd α)(e:zB)(v:α):Prop:=∀pre post:zB,r (pre++e++post) pre.length=some (v,((pre.length+e.length:Nat):Int))
def Cuts{α:Type}(r:Rd α):Prop:=∀(s:zB) (a:Int) (v:α) (b:Int) (k:Nat),r s a=some (v,b)→a≤k→a≤b∧(b≤k→r (s.take k) a=some (v,b))∧(k<b→r (s.take k) a=none)
theorem Enc.bind{α β:Type}{r:Rd α}{f:α→Rd β}{e1 e2:zB}{v1:α}{v2:β}(h1:Enc r e1 v1)(h2:Enc (f v1) e2 v2):Enc (r.bind f) (e1++e2) v2:=by
 intro pre post;have a:=h1 pre (e2++post);have b:=h2 (pre++e1) post
 grind [Rd.bind]
theorem Enc.ret{α:Type}(v:α):Enc (Rd.ret v) [] v:=fun pre post=>by simp[Rd.ret]
theorem Cuts.bind{α β:Type}{r:Rd α}{f:α→Rd β}(h1:Cuts r)(h2:∀v,Cuts (f v)):Cuts (r.bind f):=by
 intro s a v b k h hk;unfold Rd.bind at h ⊢;cases hr:r s a with
 |none=>grind
 |some p=>
  obtain⟨v1,b1⟩:=p;rw[hr]at h;obtain⟨g1,g2,g3⟩:=h1 s a v1 b1 k hr hk;by_cases hb:b1≤k
  ·obtain⟨j1,j2,j3⟩:=h2 v1 s b1 v b k h hb
   grind
  ·obtain⟨j1,_,_⟩:=h2 v1 s b1 v b b1.toNat h (by omega)
   grind
theorem Cuts.ret{α:Type}(v:α):Cuts (Rd.ret v):=by
 intro s a v' b k h hk;simp only[Rd.ret,Option.some.injEq,Prod.mk.injEq]at h ⊢
 grind
theorem Cuts.fail{α:Type}:Cuts (Rd.fail (α:=α)):=fun s a v b k h=>by cases h
theorem Enc.cut{α:Type}{r:Rd α}{e:zB}{v:α}(h:Enc r e v)(hc:Cuts r)(k:Nat)(hk:k<e.length):r (e.take k) 0=none:=by
 have a:=h [] [];simp at a;exact(hc e 0 v _ k a (by omega)).2.2 (by omega)
/-! Numbers. -/
def cont:zB→zB
 |[]=>[]
 |[g]=>[g]
 |g::r=>(g+128)::cont r
theorem cont_snoc(l:zB)(g:UInt8):cont (l++[g])=l.map (·+128)++[g]:=by
 induction l with
 |nil=>rfl
 |cons a r ih=>
  cases r with
  |nil=>rfl
  |cons b q=>simp only[List.cons_append,cont,List.map_cons]at ih ⊢;rw[ih]
theorem pack_cont(l:zB):pack l=cont l:=by
 rcases List.eq_nil_or_concat l with rfl|⟨q,g,rfl⟩
 ·rfl
 ·rw[List.concat_eq_append,cont_snoc];have:∀(n:Nat) (q:zB) (g:UInt8),q.length=n→pack (q++[g])=q.map (·+128)++[g]:=by
   intro n
   induction n with
   |zero=>intro q g hq;obtain rfl:=List.eq_nil_of_length_eq_zero hq;rfl
   |succ n ih=>
    intro q g hq;rcases List.eq_nil_or_concat q with rfl|⟨p,a,rfl⟩
    ·simp at hq
    ·grind [pack_snoc,bump_snoc]
  grind
theorem u8_lt(b:UInt8):b.toNat<256:=b.toNat_lt
theorem rdGo_last{k:Nat}{b:UInt8}(st:Nat×Nat)(r:zB)(hk:k≠0)(h0:b.toNat≠0)(h9:k=9→b.toNat≤1)(hb:b.toNat<128):rdGo k st (b::r)=.ok (st.1+b.toNat*2 ^ (7*k-1),st.2,k+1):=by
 grind [rdGo]
theorem rdGo_more{k:Nat}{b:UInt8}(st:Nat×Nat)(r:zB)(hk:k≠0)(h9:k≠9)(hb:128≤b.toNat):rdGo k st (b::r)=rdGo (k+1) (st.1+b.toNat%128*2 ^ (7*k-1),st.2) r:=by
 grind [rdGo]
theorem rdGo_last0{b:UInt8}(st:Nat×Nat)(r:zB)(hb:b.toNat<128):rdGo 0 st (b::r)=.ok (b.toNat / 2,b.toNat%2,1):=by
 grind [rdGo]
theorem rdGo_more0{b:UInt8}(st:Nat×Nat)(r:zB)(hb:128≤b.toNat):rdGo 0 st (b::r)=rdGo 1 (b.toNat%128 / 2,b.toNat%128%2) r:=by
 grind [rdGo]
theorem rdGo_tail:∀(f k:Nat) (st:Nat×Nat) (m:Nat) (rest:zB),m≠0→1≤k→k+f=10→m<2 ^ (64-7*k)→
    rdGo k st (cont (tailN f m)++rest)=.ok (st.1+m*2 ^ (7*k-1),st.2,k+(tailN f m).length):=by
  intro f
  induction f with
  | zero => intro k st m rest hm h1 h2 h3; obtain rfl : k = 10 := by omega
            simp at h3;omega
  |succ f ih=>
    intro k st m rest hm h1 h2 h3
    have hb:(UInt8.ofNat (m%128)).toNat=m%128:=by rw[UInt8.toNat_ofNat'];omega
    rw[tailN,if_neg hm]
    by_cases hd:m / 128=0
    · rw[hd,tailN_zero]
      simp only[cont,List.cons_append,List.nil_append]
      have hm':m%128=m:=by omega
      rw[rdGo_last st rest (by omega) (by rw[hb];omega) (by rintro rfl;rw[hb];simp at h3;omega) (by rw[hb];omega),hb,hm']
      simp
    · have hk9:k≠9:=by rintro rfl;simp at h3;omega
      obtain⟨x,r,hx⟩:∃x r,tailN f (m / 128)=x::r:=by
        obtain⟨f',rfl⟩:∃f',f=f'+1:=⟨f-1,by omega⟩
        rw[tailN,if_neg hd];exact⟨_,_,rfl⟩
      have hcn:cont (UInt8.ofNat (m%128)::tailN f (m / 128))=(UInt8.ofNat (m%128)+128)::cont (tailN f (m / 128)):=by rw[hx];rfl
      rw[hcn,List.cons_append]
      have hbb:(UInt8.ofNat (m%128)+128).toNat=m%128+128:=by
        rw[UInt8.toNat_add,hb];show(m%128+128)%256=_;omega
      rw[rdGo_more st _ (by omega) hk9 (by rw[hbb];omega),hbb]
      have hp:(2:Nat) ^ (64-7*k)=2 ^ (64-7*(k+1))*128:=by
        rw[show 64-7*k=(64-7*(k+1))+7 by omega,Nat.pow_add]
      rw[ih (k+1) _ (m / 128) rest hd (by omega) (by omega) (by rw[hp]at h3;omega)]
      have hq:(2:Nat) ^ (7*(k+1) - 1)=128*2 ^ (7*k-1):=by
        rw[show 7*(k+1) - 1=7+(7*k-1) by omega,Nat.pow_add]
      simp only[List.length_cons]
      congr 2
      · rw[hq,show(m%128+128)%128=m%128 by omega]
        generalize 2 ^ (7*k-1)=Q
        have:m*Q=(m%128)*Q+(m / 128)*(128*Q):=by
          conv=>lhs;rw[show m=m%128+128*(m / 128) by omega]
          rw[Nat.add_mul,Nat.mul_comm 128 (m / 128),Nat.mul_assoc]
        omega
      · congr 1;omega
theorem rd_num(x:Int)(h0: -9223372036854775808≤x)(h1:x≤9223372036854775807)(pre post:zB):rd (pre++num x++post) pre.length=.ok (x,(num x).length):=by
 have hpos:=num_pos x;unfold rd;rw[if_pos (by grind)];have hd:List.drop (pre.length:Int).toNat (pre++num x++post)=num x++post:=by
  simp
 have hnl:(num x).length=1+(tailN 9 (mag x / 64)).length:=by grind [num,z166,groups]
 rw[hd,hnl,num,pack_cont,groups];have hs:sgn x≤1:=by grind [sgn]
 have hb:(UInt8.ofNat (mag x%64*2+sgn x)).toNat=mag x%64*2+sgn x:=by rw[UInt8.toNat_ofNat'];omega
 have key:rdGo 0 (0,0) (cont (UInt8.ofNat (mag x%64*2+sgn x)::tailN 9 (mag x / 64))++post)=.ok (mag x,sgn x,1+(tailN 9 (mag x / 64)).length):=by
  by_cases hz:mag x / 64=0
  ·rw[hz,tailN_zero];simp only[cont,List.cons_append,List.nil_append]
   grind [rdGo_last0]
  ·obtain⟨y,r,hx⟩:∃y r,tailN 9 (mag x / 64)=y::r:=by
    grind [tailN]
   have hcn:cont (UInt8.ofNat (mag x%64*2+sgn x)::tailN 9 (mag x / 64))=(UInt8.ofNat (mag x%64*2+sgn x)+128)::cont (tailN 9 (mag x / 64)):=by rw[hx];rfl
   grind [UInt8.ofNat,mag,sgn,UInt8.toNat_add,rdGo_more0,rdGo_tail]
 grind [sgn,mag]
theorem enc_num(x:Int)(h0: -9223372036854775808≤x)(h1:x≤9223372036854775807):Enc z40 (num x) x:=by
 intro pre post
 grind [z40,rd_num]
theorem enc_text(t:zB)(ht:t.length≤10000):Enc z32 (text t) t:=by
 intro pre post;have h:=rd_num t.length (by omega) (by omega) pre (t++post);rw[show pre++text t++post=pre++num t.length++(t++post) by simp[text],z32,rdW,h]
 dsimp only
 rw[show((pre.length:Int)+((num t.length).length:Nat)).toNat=(pre++num t.length).length by simp;omega,List.drop_left,show((t.length:Int)).toNat=t.length by omega,List.take_left]
 grind [text]
theorem rdGo_take:∀(l:zB) (k:Nat) (st:Nat×Nat) (m sg z j:Nat),rdGo k st l=.ok (m,sg,z)→k<z∧(z≤k+j→rdGo k st (l.take j)=.ok (m,sg,z))∧(k+j<z→rdGo k st (l.take j)=.error false):=by
 intro l
 induction l with
 |nil=>intro k st m sg z j h;cases h
 |cons b r ih=>
  intro k st m sg z j h;rw[rdGo]at h;split at h
  ·cases h
  ·rename_i hc
   dsimp only at h
   split at h
   ·rename_i hb;injection h with h
    simp only[Prod.mk.injEq]at h;obtain⟨h1,h2,h3⟩:=h;refine⟨by omega,fun hz=> ?_,fun hz=> ?_⟩
    ·obtain⟨j',rfl⟩:∃j',j=j'+1:=⟨j-1,by omega⟩
     rw[List.take_succ_cons,rdGo,if_neg hc];rw[if_pos hb,h1,h2,h3]
    ·obtain rfl:j=0:=by omega
     rfl
   ·rename_i hb;cases j with
    |zero=>
     obtain⟨h1,_,_⟩:=ih _ _ _ _ _ 0 h;exact⟨by omega,fun hz=>by omega,fun _=>rfl⟩
    |succ j'=>
     obtain⟨h1,h2,h3⟩:=ih _ _ _ _ _ j' h;refine⟨by omega,fun hz=> ?_,fun hz=> ?_⟩;all_goals
      rw[List.take_succ_cons,rdGo,if_neg hc];rw[if_neg hb]
     ·exact h2 (by omega)
     ·exact h3 (by omega)
theorem rd_take{s:zB}{a n:Int}{z:Nat}(h:rd s a=.ok (n,z))(k:Nat)(hk:a≤k):0≤a∧(a+z≤k→rd (s.take k) a=.ok (n,z))∧(k<a+z→rd (s.take k) a=.error false):=by
 unfold rd at h;split at h
 ·rename_i hin;cases hr:rdGo 0 (0,0) (s.drop a.toNat)with
  |error e=>grind
  |ok p=>
   rw[hr]at h;injection h with h
   obtain⟨g1,g2,g3⟩:=rdGo_take _ _ _ _ _ _ (k-a.toNat) hr
   grind [List.drop_take,rd]
 ·cases h
theorem cuts_num:Cuts z40:=by
 intro s a v b k h hk;unfold z40 at h ⊢;cases hr:rd s a with
 |error e=>grind
 |ok p=>
  obtain⟨_,g1,g2⟩:=rd_take hr k hk
  grind
theorem z177:Cuts z32:=by
 intro s a v b k h hk;unfold z32 rdW at h ⊢;cases hr:rd s a with
 |error e=>grind
 |ok p=>
  obtain⟨n,z⟩:=p;rw[hr]at h
  dsimp only at h
  obtain⟨g0,g1,g2⟩:=rd_take hr k hk;by_cases hn:n<0∨10000<n
  ·grind
  rw[if_neg hn]at h;by_cases hl:(s.length:Int) - (a+z)<n
  ·grind
  rw[if_neg hl]at h;obtain⟨rfl,rfl⟩:=h;refine⟨by omega,fun hb=> ?_,fun hb=> ?_⟩
  ·rw[g1 (by omega)]
   dsimp only
   rw[if_neg hn,if_neg (by grind)]
   grind [List.drop_take]
  ·grind
end Go.Mor
end

section
namespace Go.Proofs.YtcpaleaajdilgaaGreatDoor
open Go Go.RowKit Go.Mor Go.Sh Go.Sh.Cd1 Go.Sh.Cd7
def encC(h:Chg):zB:=num h.k++text h.f++text h.n++text h.m++(num h.t.k++num h.t.o)++text h.x++text h.o
structure ChFit(h:Chg):Prop where
 k:I64 h.k
 tk:I64 h.t.k
 ot:I64 h.t.o
 f:h.f.length≤10000
 n:h.n.length≤10000
 m:h.m.length≤10000
 x:h.x.length≤10000
 o:h.o.length≤10000
theorem words7_ok(a0 a1:Addr)(m:Nat)(s:zB)(hs:s.length≤10000):zC (gl a0 a1 m) 65 [S (str s)] [] (S (str (text s))) []:=by
 have HT:=wText_ok a0 a1 m s hs;refine z43 tf_51 ?_;exact z14 HT
theorem z120{s:zB}(h:s.length≤10000):(text s).length≤10010:=by unfold text;rw[List.length_append];have:=z97 (s.length:Int);omega
def encT7(h:Chg):TV:=if wellV h then .tuple [S (str (encC h)),I 0] else .tuple [S (str []),I 70]
theorem encode7_ok(a0 a1:Addr)(m:Nat)(h:Chg)(hh:ChOk m h)(hf:ChFit h):zC (glX a0 a1 m) 28 [chT h] [] (encT7 h) []:=by
 have HW:=sc_EX (a0:=a0) (a1:=a1) (wellFormed_ok m h hh);have N1:=sc_1X (wNum_ok a0 a1 m h.k hf.k);have N2:=sc_1X (wNum_ok a0 a1 m h.t.k hf.tk);have N3:=sc_1X (wNum_ok a0 a1 m h.t.o hf.ot);have T1:=sc_1X (words7_ok a0 a1 m h.f hf.f);have T2:=sc_1X (words7_ok a0 a1 m h.n hf.n);have T3:=sc_1X (words7_ok a0 a1 m h.m hf.m);have T4:=sc_1X (words7_ok a0 a1 m h.x hf.x);have T5:=sc_1X (words7_ok a0 a1 m h.o hf.o);have l1:=z97 h.k;have l2:=z97 h.t.k;have l3:=z97 h.t.o;have m1:=z120 hf.f;have m2:=z120 hf.n;have m3:=z120 hf.m;have m4:=z120 hf.x;have m5:=z120 hf.o;unfold encT7 encC;generalize num h.k=n1 at*;generalize num h.t.k=n2 at*;generalize num h.t.o=n3 at*;generalize text h.f=t1 at*;generalize text h.n=t2 at*;generalize text h.m=t3 at*;generalize text h.x=t4 at*;generalize text h.o=t5 at*;refine z10 tf_38 ?_;unfold chT B at*;generalize wellV h=wv at*;cases wv
 ·simp only[vW,seval];refine z8 HW ?_;rfl
 simp only[vW,seval];refine z8 HW ?_;refine z8 N1 ?_;refine v_loop (σ:={i:Nat // i≤3}) (fun i=>⟨[(1,.ptr 1 0),(4,S (str (n1++([t1,t2,t3].take i.1).flatten))),(19,.pv (.sl 1 [[.v (.string (str h.f))],[.v (.string (str h.n))],[.v (.string (str h.m))]])),(20,I 3),(21,I (i.1:Int))],
  [(1,[I h.k,S (str h.f),S (str h.n),S (str h.m),I h.t.k,I h.t.o,S (str h.x),S (str h.o)])],[],[]⟩) (fun i=>3-i.1) ⟨0,by decide⟩ ?_ ?_
 ·exact lwA
 rintro⟨i,hi⟩;have hi:i=0∨i=1∨i=2∨i=3:=by omega
 have e0:([t1,t2,t3].take 0).flatten=[]:=rfl;have e1:([t1,t2,t3].take 1).flatten=t1:=by simp
 have e2:([t1,t2,t3].take 2).flatten=t1++t2:=by simp
 have e3:([t1,t2,t3].take 3).flatten=t1++(t2++t3):=by simp
 rcases hi with rfl|rfl|rfl|rfl
 ·simp only[e0,List.append_nil];simp only[vW,seval];refine z8 T1 ?_;refine⟨by omega,z13 ⟨1,by decide⟩ (by show 3-1<3-0;decide) ?_⟩;simp only[e1];apply lw_of<;>simp[leL,lk,sv,Nat.beq,I,S,ES.kill,has,drp,nilT,show IntKind.i64.wrap 1=1 from rfl,show IntKind.i64.wrap 2=2 from rfl,show IntKind.i64.wrap 3=3 from rfl]
 ·simp only[e1];simp only[vW,seval];refine z8 T2 ?_;refine⟨by(try simp only[List.length_append]);omega,z13 ⟨2,by decide⟩ (by show 3-2<3-1;decide) ?_⟩;simp only[e2,←List.append_assoc];apply lw_of<;>simp[leL,lk,sv,Nat.beq,I,S,ES.kill,has,drp,nilT,show IntKind.i64.wrap 1=1 from rfl,show IntKind.i64.wrap 2=2 from rfl,show IntKind.i64.wrap 3=3 from rfl]
 ·simp only[e2,←List.append_assoc];simp only[vW,seval];refine z8 T3 ?_;refine⟨by(try simp only[List.length_append]);omega,z13 ⟨3,by decide⟩ (by show 3-3<3-2;decide) ?_⟩;simp only[e3,←List.append_assoc];apply lw_of<;>simp[leL,lk,sv,Nat.beq,I,S,ES.kill,has,drp,nilT,show IntKind.i64.wrap 1=1 from rfl,show IntKind.i64.wrap 2=2 from rfl,show IntKind.i64.wrap 3=3 from rfl]
 ·simp only[e3,←List.append_assoc];simp only[vW,seval];refine z8 N2 ?_;refine z8 N3 ?_;refine⟨by omega,by(try simp only[List.length_append]);omega,?_⟩;refine z8 T4 ?_;refine⟨by(try simp only[List.length_append]);omega,?_⟩;refine z8 T5 ?_;refine⟨by omega,?_⟩;simp[List.append_assoc]
def rdB(l:zB)(st:Int×Bool):MO:=.box [S (str l),I st.1,B st.2]
def nuS(l:zB)(st:Int×Bool):Int×(Int×Bool):=if st.2 then(0,(st.1,true))else match z40 l st.1 with|some (n,b)=>(n,(b,false))|none=>(0,(st.1,true))
def txS(l:zB)(st:Int×Bool):zB×(Int×Bool):=if st.2 then([],(st.1,true))else match z32 l st.1 with|some (t,b)=>(t,(b,false))|none=>([],(st.1,true))
theorem rdNum7_ok(a0 a1:Addr)(m:Nat)(l:zB)(st:Int×Bool)(hl:l.length<1125899906842624)(h:I64 st.1):
  zC (gl a0 a1 m) 66 [.ptr 1000 0] [rdB l st] (I (nuS l st).1) [rdB l (nuS l st).2]:=by
 have HR:=readNum_ok a0 a1 m l st.1 hl h;obtain⟨a,bad⟩:=st;unfold nuS rdB
 dsimp only at*
 refine z22 tf_0 ?_;unfold B at*;cases hr:z40 l a with
 |none=>
  rw[hr]at HR;simp only[numTV]at HR;cases bad
  ·simp only[vW,seval];exact z14 HR
  ·simp only[vW,seval];exact z14 HR
 |some p=>
  obtain⟨n,b⟩:=p;rw[hr]at HR;simp only[numTV]at HR;cases bad
  ·simp only[vW,seval];exact z14 HR
  ·simp only[vW,seval];exact z14 HR
theorem rdText7_ok(a0 a1:Addr)(m:Nat)(l:zB)(st:Int×Bool)(hl:l.length<1125899906842624)(h:I64 st.1):
  zC (gl a0 a1 m) 67 [.ptr 1000 0] [rdB l st] (S (str (txS l st).1)) [rdB l (txS l st).2]:=by
 have HR:=readText_ok a0 a1 m l st.1 hl h;have e0:=bS [];obtain⟨a,bad⟩:=st;unfold txS rdB
 dsimp only at*
 refine z22 tf_1 ?_;unfold B at*;cases hr:z32 l a with
 |none=>
  rw[hr]at HR;simp only[readTV]at HR;cases bad
  ·simp only[vW,seval];refine z7 HR ?_;simp only[vW,seval,e0]
  ·simp only[vW,seval];refine z7 HR ?_;simp only[vW,seval,e0]
 |some p=>
  obtain⟨n,b⟩:=p;rw[hr]at HR;simp only[readTV]at HR;cases bad
  ·simp only[vW,seval];refine z7 HR ?_;simp only[vW,seval,e0]
  ·simp only[vW,seval];refine z7 HR ?_;simp only[vW,seval,e0]
theorem nuS_bd{l:zB}{st:Int×Bool}(hl:l.length<1125899906842624)(h:I64 st.1):I64 (nuS l st).2.1∧I64 (nuS l st).1:=by
 unfold nuS;split
 ·exact⟨h,by unfold I64;omega⟩
 split
 ·rename_i e;have:=readNum_bound e;exact⟨⟨by dsimp only;omega,by dsimp only;omega⟩,⟨by dsimp only;omega,by dsimp only;omega⟩⟩
 ·exact⟨h,by unfold I64;omega⟩
theorem txS_bd{l:zB}{st:Int×Bool}(hl:l.length<1125899906842624)(h:I64 st.1):I64 (txS l st).2.1∧(txS l st).1.length≤10000:=by
 unfold txS;split
 ·exact⟨h,by simp⟩
 split
 ·rename_i e;have:=readText_bound e;exact⟨⟨by dsimp only;omega,by dsimp only;omega⟩,by dsimp only;omega⟩
 ·exact⟨h,by simp⟩
def dec7(l:zB)(a:Int):Chg×(Int×Bool):=
 let r1:=nuS l (a,false)
 let r2:=txS l r1.2
 let r3:=txS l r2.2
 let r4:=txS l r3.2
 let r5:=nuS l r4.2
 let r6:=nuS l r5.2
 let r7:=txS l r6.2
 let r8:=txS l r7.2
 (⟨r1.1,r2.1,r3.1,r4.1,⟨r5.1,r6.1⟩,r7.1,r8.1⟩,r8.2)
def chg0:Chg:=⟨0,[],[],[],⟨0,0⟩,[],[]⟩
def decT7(l:zB)(a:Int):TV:=
 bif (dec7 l a).2.2|| !wellV (dec7 l a).1 then .tuple [chT chg0,I 0,I 10] else .tuple [chT (dec7 l a).1,I (dec7 l a).2.1,I 0]
theorem decode7_ok(a0 a1:Addr)(m:Nat)(l:zB)(a:Int)(hl:l.length<1125899906842624)(h:I64 a)(hh:(dec7 l a).2.2=false→ChOk m (dec7 l a).1):
  zC (glX a0 a1 m) 29 [S (str l),I a] [] (decT7 l a) []:=by
 have e0:=bS [];unfold decT7;unfold dec7 at*
 dsimp only at*
 have H1:=sc_1X (rdNum7_ok a0 a1 m l (a,false) hl h);have b1:=(nuS_bd (st:=(a,false)) hl h).1;generalize nuS l (a,false)=r1 at*;obtain⟨n1,s1⟩:=r1;have H2:=sc_1X (rdText7_ok a0 a1 m l s1 hl b1);have b2:=(txS_bd hl b1).1
 dsimp only at*
 generalize txS l s1=r2 at*;obtain⟨n2,s2⟩:=r2;have H3:=sc_1X (rdText7_ok a0 a1 m l s2 hl b2);have b3:=(txS_bd hl b2).1
 dsimp only at*
 generalize txS l s2=r3 at*;obtain⟨n3,s3⟩:=r3;have H4:=sc_1X (rdText7_ok a0 a1 m l s3 hl b3);have b4:=(txS_bd hl b3).1
 dsimp only at*
 generalize txS l s3=r4 at*;obtain⟨n4,s4⟩:=r4;have H5:=sc_1X (rdNum7_ok a0 a1 m l s4 hl b4);have b5:=(nuS_bd hl b4).1
 dsimp only at*
 generalize nuS l s4=r5 at*;obtain⟨n5,s5⟩:=r5;have H6:=sc_1X (rdNum7_ok a0 a1 m l s5 hl b5);have b6:=(nuS_bd hl b5).1
 dsimp only at*
 generalize nuS l s5=r6 at*;obtain⟨n6,s6⟩:=r6;have H7:=sc_1X (rdText7_ok a0 a1 m l s6 hl b6);have b7:=(txS_bd hl b6).1
 dsimp only at*
 generalize txS l s6=r7 at*;obtain⟨n7,s7⟩:=r7;have H8:=sc_1X (rdText7_ok a0 a1 m l s7 hl b7);have b8:=(txS_bd hl b7).1
 dsimp only at*
 generalize txS l s7=r8 at*;obtain⟨n8,a8,bad⟩:=r8
 dsimp only at*
 have HW:bad=false→_:=fun e=>sc_EX (a0:=a0) (a1:=a1) (wellFormed_ok m _ (hh e));generalize wellV _=wv at*;unfold chT chg0 rdB B at*
 dsimp only at*
 refine z43 tf_37 ?_;refine z7 H1 ?_;refine z7 H2 ?_;refine z7 H3 ?_;refine z8 H4 ?_;refine z8 H5 ?_;refine z8 H6 ?_;refine z8 H7 ?_;refine z7 H8 ?_;cases bad
 ·have HW:=HW rfl;cases wv
  ·simp only[vW,seval];refine z7 HW ?_;simp only[vW,seval,e0];rfl
  ·simp only[vW,seval];refine z7 HW ?_;simp only[vW,seval,e0];rfl
 ·simp only[vW,seval,e0];rfl
def z47(a b:Chg):Bool:=(a.k==b.k)&&((a.f==b.f)&&((a.n==b.n)&&((a.m==b.m)&&(eqTy a.t b.t&&((a.x==b.x)&&((a.o==b.o)&&true))))))
def chA(k:Int)(f n m:ByteArray)(t o:Int)(x y:ByteArray):Array Value:= #[.int .i64 k,.string f,.string n,.string m,.int .i64 t,.int .i64 o,.string x,.string y]
theorem eqChgR(k k':Int)(f n m f' n' m':ByteArray)(t o t' o':Int)(x y x' y':ByteArray):z23 Tryz.prog (Op.equal 50 (.agg (chA k f n m t o x y)) (.agg (chA k' f' n' m' t' o' x' y')))=
  some ((k==k')&&((f==f')&&((n==n')&&((m==m')&&(eqTy ⟨t,o⟩ ⟨t',o'⟩&&((x==x')&&((y==y')&&true))))))):=by
 unfold Op.equal;obtain⟨d,hn⟩:∃d,Op.maxDepth=d+1+1+1:=⟨_,rfl⟩
 rw[hn,z98 _ _ _ _ (by kernel_rfl) (by kernel_rfl)];obtain⟨f1,f2,f3,f4,f5,f6,f7,hl,P1,P2,P3,P4,P5,P6,P7⟩:∃f1 f2 f3 f4 f5 f6 f7,(Tryz.prog.fieldsOf 50).toList=[f1,f2,f3,f4,f5,f6,f7]∧
   PartOk f1 (chA k f n m t o x y) (chA k' f' n' m' t' o' x' y') (.int .i64 k) (.int .i64 k') (k==k')∧
   PartOk f2 (chA k f n m t o x y) (chA k' f' n' m' t' o' x' y') (.string f) (.string f') (f==f')∧
   PartOk f3 (chA k f n m t o x y) (chA k' f' n' m' t' o' x' y') (.string n) (.string n') (n==n')∧
   PartOk f4 (chA k f n m t o x y) (chA k' f' n' m' t' o' x' y') (.string m) (.string m') (m==m')∧
   PartOk f5 (chA k f n m t o x y) (chA k' f' n' m' t' o' x' y') (.agg #[.int .i64 t,.int .i64 o]) (.agg #[.int .i64 t',.int .i64 o']) (eqTy ⟨t,o⟩ ⟨t',o'⟩)∧
   PartOk f6 (chA k f n m t o x y) (chA k' f' n' m' t' o' x' y') (.string x) (.string x') (x==x')∧
   PartOk f7 (chA k f n m t o x y) (chA k' f' n' m' t' o' x' y') (.string y) (.string y') (y==y'):=
  ⟨(Tryz.prog.fieldsOf 50).toList.getD 0 default,(Tryz.prog.fieldsOf 50).toList.getD 1 default,(Tryz.prog.fieldsOf 50).toList.getD 2 default,(Tryz.prog.fieldsOf 50).toList.getD 3 default,
   (Tryz.prog.fieldsOf 50).toList.getD 4 default,(Tryz.prog.fieldsOf 50).toList.getD 5 default,(Tryz.prog.fieldsOf 50).toList.getD 6 default,by kernel_rfl,
   ⟨of_decide_eq_true (by kernel_rfl),by kernel_rfl,by kernel_rfl,fun n=>prI (n+1) _ _⟩,
   ⟨of_decide_eq_true (by kernel_rfl),by kernel_rfl,by kernel_rfl,fun n=>prS (n+1) _ _⟩,
   ⟨of_decide_eq_true (by kernel_rfl),by kernel_rfl,by kernel_rfl,fun n=>prS (n+1) _ _⟩,
   ⟨of_decide_eq_true (by kernel_rfl),by kernel_rfl,by kernel_rfl,fun n=>prS (n+1) _ _⟩,
   ⟨of_decide_eq_true (by kernel_rfl),by kernel_rfl,by kernel_rfl,fun n=>eqTyN n _ _ _ _⟩,
   ⟨of_decide_eq_true (by kernel_rfl),by kernel_rfl,by kernel_rfl,fun n=>prS (n+1) _ _⟩,
   ⟨of_decide_eq_true (by kernel_rfl),by kernel_rfl,by kernel_rfl,fun n=>prS (n+1) _ _⟩⟩
 rw[hl];exact z73 P1 (z73 P2 (z73 P3 (z73 P4 (z73 P5 (z73 P6 (z73 P7 parts_nil))))))
theorem eqlChg(k k':Int)(f n m f' n' m':ByteArray)(t o t' o':Int)(x y x' y':ByteArray):
  scal Tryz.prog (do eqGuard .eql 50 (.const (.agg #[.int .i64 k,.string f,.string n,.string m,.int .i64 t,.int .i64 o,.string x,.string y])) (.const (.agg #[.int .i64 k',.string f',.string n',.string m',.int .i64 t',.int .i64 o',.string x',.string y'])) (.agg #[.int .i64 k,.string f,.string n,.string m,.int .i64 t,.int .i64 o,.string x,.string y]) (.agg #[.int .i64 k',.string f',.string n',.string m',.int .i64 t',.int .i64 o',.string x',.string y']);binOp .eql 50 (.agg #[.int .i64 k,.string f,.string n,.string m,.int .i64 t,.int .i64 o,.string x,.string y]) (.agg #[.int .i64 k',.string f',.string n',.string m',.int .i64 t',.int .i64 o',.string x',.string y']))=
  some (.pv (.v (.bool ((k==k')&&((f==f')&&((n==n')&&((m==m')&&(eqTy ⟨t,o⟩ ⟨t',o'⟩&&((x==x')&&((y==y')&&true))))))))),.no):=by
 unfold scal;rw[z31];have hg:z23 Tryz.prog (eqGuard .eql 50 (.const (.agg #[.int .i64 k,.string f,.string n,.string m,.int .i64 t,.int .i64 o,.string x,.string y])) (.const (.agg #[.int .i64 k',.string f',.string n',.string m',.int .i64 t',.int .i64 o',.string x',.string y'])) (.agg #[.int .i64 k,.string f,.string n,.string m,.int .i64 t,.int .i64 o,.string x,.string y]) (.agg #[.int .i64 k',.string f',.string n',.string m',.int .i64 t',.int .i64 o',.string x',.string y']))=some ():=by kernel_rfl
 rw[hg,Option.bind_some];have hb:binOp .eql 50 (.agg #[.int .i64 k,.string f,.string n,.string m,.int .i64 t,.int .i64 o,.string x,.string y]) (.agg #[.int .i64 k',.string f',.string n',.string m',.int .i64 t',.int .i64 o',.string x',.string y'])=(Op.equal 50 (.agg (chA k f n m t o x y)) (.agg (chA k' f' n' m' t' o' x' y'))>>=fun r=>pure (.bool r)):=rfl;rw[hb,z31,eqChgR];rfl
theorem strB3(a b:zB):(str a==str b)=(a==b):=by
 show((str a).data==(str b).data)=(a==b)
 rw[Bool.eq_iff_iff,beq_iff_eq,beq_iff_eq];constructor
 ·intro h;have:=congrArg Array.toList h;simpa [str]using this
 ·intro h;rw[h]
theorem sameChg_ok(g:Sh.Glob)(a b:Chg):zC g 27 [chT a,chT b] [] (B (z47 a b)) []:=by
 have H:=eqlChg a.k b.k (str a.f) (str a.n) (str a.m) (str b.f) (str b.n) (str b.m) a.t.k a.t.o b.t.k b.t.o (str a.x) (str a.o) (str b.x) (str b.o);simp only[strB3]at H;refine z10 tf_40 ?_;unfold chT B z47;simp only[vW,seval,H]
def rd7:Rd Chg:=
 Rd.bind z40 fun k=>Rd.bind z32 fun f=>Rd.bind z32 fun n=>Rd.bind z32 fun m=>Rd.bind z40 fun t=>Rd.bind z40 fun o=>Rd.bind z32 fun x=>Rd.bind z32 fun y=>Rd.ret ⟨k,f,n,m,⟨t,o⟩,x,y⟩
theorem enc7{h:Chg}(hf:ChFit h):Enc rd7 (encC h) h:=by
 have e:encC h=num h.k++(text h.f++(text h.n++(text h.m++(num h.t.k++(num h.t.o++(text h.x++(text h.o++[]))))))):=by unfold encC;simp
 rw[e];refine(enc_num _ hf.k.1 hf.k.2).bind ((enc_text _ hf.f).bind ((enc_text _ hf.n).bind ((enc_text _ hf.m).bind ((enc_num _ hf.tk.1 hf.tk.2).bind ((enc_num _ hf.ot.1 hf.ot.2).bind ((enc_text _ hf.x).bind ((enc_text _ hf.o).bind ?_)))))));exact Enc.ret _
theorem cuts7:Cuts rd7:=
 cuts_num.bind fun _=>z177.bind fun _=>z177.bind fun _=>z177.bind fun _=>cuts_num.bind fun _=>cuts_num.bind fun _=>z177.bind fun _=>z177.bind fun _=>Cuts.ret _
theorem nuS_t(l:zB)(a:Int):nuS l (a,true)=(0,(a,true)):=rfl
theorem txS_t(l:zB)(a:Int):txS l (a,true)=([],(a,true)):=rfl
theorem nuS_n{l:zB}{a:Int}(h:z40 l a=none):nuS l (a,false)=(0,(a,true)):=by unfold nuS;simp[h]
theorem txS_n{l:zB}{a:Int}(h:z32 l a=none):txS l (a,false)=([],(a,true)):=by unfold txS;simp[h]
theorem nuS_s{l:zB}{a n b:Int}(h:z40 l a=some (n,b)):nuS l (a,false)=(n,(b,false)):=by unfold nuS;simp[h]
theorem txS_s{l t:zB}{a b:Int}(h:z32 l a=some (t,b)):txS l (a,false)=(t,(b,false)):=by unfold txS;simp[h]
theorem dec7_rd(l:zB)(a:Int):match rd7 l a with|some (h,b)=>dec7 l a=(h,(b,false))|none=>(dec7 l a).2.2=true:=by
 unfold rd7 Rd.bind Rd.ret dec7;rcases h1:z40 l a with _|⟨k,b1⟩
 ·simp only[nuS_n h1,nuS_t,txS_t]
 simp only[nuS_s h1];rcases h2:z32 l b1 with _|⟨f,b2⟩
 ·simp only[txS_n h2,nuS_t,txS_t]
 simp only[txS_s h2];rcases h3:z32 l b2 with _|⟨n,b3⟩
 ·simp only[txS_n h3,nuS_t,txS_t]
 simp only[txS_s h3];rcases h4:z32 l b3 with _|⟨m,b4⟩
 ·simp only[txS_n h4,nuS_t,txS_t]
 simp only[txS_s h4];rcases h5:z40 l b4 with _|⟨t,b5⟩
 ·simp only[nuS_n h5,nuS_t,txS_t]
 simp only[nuS_s h5];rcases h6:z40 l b5 with _|⟨o,b6⟩
 ·simp only[nuS_n h6,nuS_t,txS_t]
 simp only[nuS_s h6];rcases h7:z32 l b6 with _|⟨x,b7⟩
 ·simp only[txS_n h7,nuS_t,txS_t]
 simp only[txS_s h7];rcases h8:z32 l b7 with _|⟨y,b8⟩
 ·simp only[txS_n h8,nuS_t,txS_t]
 simp only[txS_s h8]
theorem dec7_enc{h:Chg}(hf:ChFit h)(pre post:zB):dec7 (pre++encC h++post) pre.length=(h,(((pre.length+(encC h).length:Nat):Int),false)):=by
 have:=dec7_rd (pre++encC h++post) pre.length;rw[enc7 hf pre post]at this;exact this
theorem dec7_cut{h:Chg}(hf:ChFit h)(k:Nat)(hk:k<(encC h).length):(dec7 ((encC h).take k) 0).2.2=true:=by
 have:=dec7_rd ((encC h).take k) 0;rw[(enc7 hf).cut cuts7 k hk]at this;exact this
theorem back7_ok(a0 a1:Addr)(m:Nat)(h:Chg)(hh:ChOk m h)(hf:ChFit h)(hw:wellV h=true)(pre post:zB)(hl:(pre++encC h++post).length<1125899906842624):
  zC (glX a0 a1 m) 29 [S (str (pre++encC h++post)),I (pre.length:Int)] [] (.tuple [chT h,I ((pre.length+(encC h).length:Nat):Int),I 0]) []:=by
 have H:=decode7_ok a0 a1 m (pre++encC h++post) (pre.length:Int) hl ⟨by omega,by simp only[List.length_append]at hl;omega⟩;unfold decT7 at H;rw[dec7_enc hf pre post]at H;have H:=H (fun _=>hh);simpa only[hw,Bool.not_true,Bool.or_self,cond_false]using H
theorem cut7_ok(a0 a1:Addr)(m:Nat)(h:Chg)(hf:ChFit h)(k:Nat)(hk:k<(encC h).length)(hl:(encC h).length<1125899906842624):
  zC (glX a0 a1 m) 29 [S (str ((encC h).take k)),I 0] [] (.tuple [chT chg0,I 0,I 10]) []:=by
 have hc:=dec7_cut hf k hk;have H:=decode7_ok a0 a1 m ((encC h).take k) 0 (by rw[List.length_take];omega) ⟨by omega,by omega⟩ (fun h0=>by rw[hc]at h0;cases h0);unfold decT7 at H;simpa only[hc,Bool.true_or,cond_true]using H
theorem encC_len{h:Chg}(hf:ChFit h):0<(encC h).length∧(encC h).length≤60000:=by
 unfold encC;have l1:=z97 h.k;have l2:=z97 h.t.k;have l3:=z97 h.t.o;have m1:=z120 hf.f;have m2:=z120 hf.n;have m3:=z120 hf.m;have m4:=z120 hf.x;have m5:=z120 hf.o;have p:=readNum_bound (by simpa using enc_num _ hf.k.1 hf.k.2 [] []);simp only[List.length_append];omega
theorem txOk_of(m:Nat){s:zB}{r:V×Int×Int}(h:parseV 1000 s=some r)(hl:s.length<4611686018427387904):TxOk m s:=by
 have e:rdV s=r:=by unfold rdV;rw[h];rfl
 refine⟨hl,fun _=> ?_,fun _=> ?_⟩
 ·rw[e];exact sc_0E (parse_any m s h)
 ·rw[e];unfold parseV at h;split at h
  ·cases h;exact esm_nil
  ·split at h
   ·cases h
   ·cases h;exact esm_nil
   ·rename_i L hL;split at h
    ·rename_i e p hp;split at h
     ·cases h;exact esm_nil
     ·split at h
      ·cases h;exact(parse_small (z140 _ _ _ _ _ (by simp) hL).1 _ _).1 _ _ _ _ hp
      ·cases h;exact esm_nil
    ·cases h;exact esm_nil
    ·cases h
theorem txOk_nil(m:Nat):TxOk m []:=⟨by simp,fun h=>absurd rfl h,fun h=>absurd rfl h⟩
theorem wk_sl{W:Nat}{es ds:List (List PV)}(hl:es.length=ds.length)(h:∀(i:Nat) cs ds',es[i]?=some cs→ds[i]?=some ds'→cs.length=ds'.length∧∀(j:Nat) c d,cs[j]?=some c→ds'[j]?=some d→∀w K v,Go.Sh.RelV w K c v→Go.Sh.RelV w K d v):Wk (.pv (.sl W es)) (.pv (.sl W ds)):=by
 intro w E r v hr;have get:∀(i j:Nat) ds' d,ds[i]?=some ds'→ds'[j]?=some d→∃cs c,es[i]?=some cs∧cs[j]?=some c∧∀w K v,Go.Sh.RelV w K c v→Go.Sh.RelV w K d v:=by
  intro i j ds' d h1 h2;have hi:i<es.length:=by
   rcases Nat.lt_or_ge i ds.length with h|h
   ·omega
   ·rw[List.getElem?_eq_none h]at h1;cases h1
  have hq:=h i _ ds' (gE hi) h1;have hj:j<es[i].length:=by
   rcases Nat.lt_or_ge j ds'.length with h|h
   ·have:=hq.1;omega
   ·rw[List.getElem?_eq_none h]at h2;cases h2
  exact⟨_,_,gE hi,gE hj,hq.2 j _ d (gE hj) h2⟩
 cases hr with
 |pv hr=>
  cases hr with
  |sl W es b off cap p f hp hcap hmax hW hc hs=>
   refine .pv ?_;rw[hl];refine .sl W ds b off cap p f (fun hne=>hp (fun e=>hne ?_)) (by omega) hmax ?_ ?_ ?_
   ·rw[e]at hl;exact List.eq_nil_of_length_eq_zero hl.symm
   ·intro ds' hm;obtain⟨i,hi,rfl⟩:=List.getElem_of_mem hm;have hi2:i<es.length:=by omega
    rw[←(h i _ _ (gE hi2) (gE hi)).1];exact hW _ (List.getElem_mem hi2)
   ·intro i j ds' d h1 h2;obtain⟨cs,c,g1,g2,_⟩:=get i j ds' d h1 h2;exact hc i j cs c g1 g2
   ·intro i j ds' d h1 h2;obtain⟨cs,c,g1,g2,g3⟩:=get i j ds' d h1 h2;exact g3 _ _ _ (hs i j cs c g1 g2)
def rvN(x:V):List PV:=[.v (.int .i64 x.k),.v (.int .i64 x.n),.v (.string (str x.s)),.v (.slice none 0 0)]
theorem wk_flat{l:List V}(h:∀v∈l,v.l=[]):Wk (.pv (.sl 4 (l.map rvN))) (.pv (.sl 4 (V.rows l))):=by
 refine wk_sl (by rw[z41];simp) (fun i cs ds h1 h2=> ?_);rw[z41]at h2;rw[List.getElem?_map]at h1 h2;cases hi:l[i]? with
 |none=>rw[hi]at h1;cases h1
 |some x=>
  rw[hi]at h1 h2;cases h1;cases h2;rw[row4];refine⟨rfl,fun j c d hc hd w K v hv=> ?_⟩;have hx:=h x (gM hi);rw[hx]at hd
  match j with
  |0=>cases hc;cases hd;exact hv
  |1=>cases hc;cases hd;exact hv
  |2=>cases hc;cases hd;exact hv
  |3=>
   cases hc;cases hd;cases hv;exact .sl 4 [] 0 0 0 none (fun _ _=>undef) (by simp) (by simp) (by simp) (by simp) (by simp) (by simp)
  |j+4=>cases hc
def cP:Cls:=⟨[112],[⟨[110,97,109,101],⟨2,0⟩,true⟩]⟩
def cD:Cls:=⟨[112],[⟨[111,110,101],⟨2,0⟩,false⟩,⟨[109,111,114,101],⟨2,0⟩,false⟩]⟩
def cQ:Cls:=⟨[113],[⟨[110],⟨1,0⟩,true⟩]⟩
def cM:Cls:=⟨[113],[⟨[110],⟨2,0⟩,false⟩]⟩
def hS:Chg:=⟨5,[110,97,109,101],[111,110,101],[109,111,114,101],⟨2,0⟩,[108,101,102,116,40,110,97,109,101,44,32,50,41],[102,114,111,109,40,110,97,109,101,44,32,51,41]⟩
def hT:Chg:=⟨4,[110],[],[],⟨2,0⟩,[116,101,120,116,40,110,41],[]⟩
def tx(s:zB):V:=.mk 2 0 s []
theorem ap1:applyV cP hS=(cD,0):=by kernel_rfl
theorem va1:valsA cP hS [tx [97,98,32,99]]=([tx [97,98],tx [99]],0):=by kernel_rfl
theorem ap2:applyV cQ hT=(cM,0):=by kernel_rfl
theorem va2:valsA cQ hT [.mk 1 7 [] []]=([tx [55]],0):=by kernel_rfl
theorem ap3:applyV cQ hS=(⟨[],[]⟩,70):=by kernel_rfl
theorem ok1:okV cQ hT=true:=by kernel_rfl
theorem ok2:okV cP hT=false:=by kernel_rfl
theorem we2:wellV hT=true:=by kernel_rfl
theorem chS_ok(m:Nat):ChOk m hS:=⟨by unfold Short hS;decide,by unfold Short hS;decide,by unfold Short hS;decide,txOk_of m (r:=rdV hS.x) (by kernel_rfl) (by unfold hS;decide),txOk_of m (r:=rdV hS.o) (by kernel_rfl) (by unfold hS;decide)⟩
theorem chT_ok(m:Nat):ChOk m hT:=⟨by unfold Short hT;decide,by unfold Short hT;decide,by unfold Short hT;decide,txOk_of m (r:=rdV hT.x) (by kernel_rfl) (by unfold hT;decide),txOk_nil m⟩
theorem chT_fit:ChFit hT:=⟨by unfold I64 hT;decide,by unfold I64 hT;decide,by unfold I64 hT;decide,by unfold hT;decide,by unfold hT;decide,by unfold hT;decide,by unfold hT;decide,by unfold hT;decide⟩
theorem cP_ok:ClsOk cP:=⟨by unfold Short cP;decide,by unfold Short cP;decide,by unfold cP;decide⟩
theorem cQ_ok:ClsOk cQ:=⟨by unfold Short cQ;decide,by unfold Short cQ;decide,by unfold cQ;decide⟩
theorem fewF{x:V}(h:x.l=[])(hs:x.s.length≤60):VFew x∧VOk x:=⟨few0 h,by unfold VOk z88;rw[h];exact⟨by omega,by simp⟩⟩
theorem ex7_ok(a0 a1:Addr)(m:Nat):zC (glX a0 a1 m) 22 [] [] (B true) []:=by
 have hS1:=chS_ok m;have hT1:=chT_ok m;have A1:=sc_EX (a0:=a0) (a1:=a1) (apply_ok m cP hS cP_ok hS1 (by decide));have V1:=sc_EX (a0:=a0) (a1:=a1) (changeVals_ok m cP hS [tx [97,98,32,99]] cP_ok hS1 (fun h=>by unfold hS at h;simp at h) (by intro v hv;simp at hv;subst hv;exact fewF rfl (by decide)) (by decide));have A2:=sc_EX (a0:=a0) (a1:=a1) (apply_ok m cQ hT cQ_ok hT1 (by decide));have V2:=sc_EX (a0:=a0) (a1:=a1) (changeVals_ok m cQ hT [.mk 1 7 [] []] cQ_ok hT1 (fun _ _=>freshB_flat _ _ (by decide) (by simp) (by intro v hv;simp at hv;subst hv;rfl)) (by intro v hv;simp at hv;subst hv;exact fewF rfl (by decide)) (by decide));have A3:=sc_EX (a0:=a0) (a1:=a1) (apply_ok m cQ hS cQ_ok hS1 (by decide));have R1:=sc_EX (a0:=a0) (a1:=a1) (changeRight_ok m cQ hT cQ_ok hT1);have R2:=sc_EX (a0:=a0) (a1:=a1) (changeRight_ok m cP hT cP_ok hT1);have EN:=encode7_ok a0 a1 m hT hT1 chT_fit;have le:=encC_len chT_fit;have DE:=back7_ok a0 a1 m hT hT1 chT_fit we2 [] [] (by simp only[List.nil_append,List.append_nil];omega);have DC:=cut7_ok a0 a1 m hT chT_fit ((encC hT).length / 2) (by omega) (by omega);simp only[List.nil_append,List.append_nil,List.length_nil,Nat.zero_add,Int.ofNat_zero]at DE
 unfold encT7 at EN;simp only[we2,if_true]at EN;have S1:=refSame4_ok (glX a0 a1 m) cD (by decide);have S2:=refSame4_ok (glX a0 a1 m) cM (by decide);have T1:=sameVals_ok (glX a0 a1 m) [tx [97,98],tx [99]] (by intro v hv;simp at hv;rcases hv with rfl|rfl<;>exact(fewF rfl (by decide)).1) (by decide);have T2:=sameVals_ok (glX a0 a1 m) [tx [55]] (by intro v hv;simp at hv;subst hv;exact(fewF rfl (by decide)).1) (by decide);have SS:=sameChg_ok (glX a0 a1 m) hT hT;rw[show z47 hT hT=true by kernel_rfl]at SS;rw[ap1]at A1;rw[ap2]at A2;rw[ap3]at A3;rw[va1]at V1;rw[va2]at V2;rw[ok1]at R1;rw[ok2]at R2;have V1':zC (glX a0 a1 m) 31 [clT cP,chT hS,.pv (.sl 4 ([tx [97,98,32,99]].map rvN))] [] (valsT ([tx [97,98],tx [99]],0)) []:=V1.inp rfl (fun j c d hc hd=>by
  match j with
  |0=>cases hc;cases hd;exact .refl _
  |1=>cases hc;cases hd;exact .refl _
  |2=>cases hc;cases hd;exact wk_flat (by intro v hv;simp at hv;subst hv;rfl)
  |j+3=>simp at hc)
 have V2':zC (glX a0 a1 m) 31 [clT cQ,chT hT,.pv (.sl 4 ([V.mk 1 7 [] []].map rvN))] [] (valsT ([tx [55]],0)) []:=V2.inp rfl (fun j c d hc hd=>by
  match j with
  |0=>cases hc;cases hd;exact .refl _
  |1=>cases hc;cases hd;exact .refl _
  |2=>cases hc;cases hd;exact wk_flat (by intro v hv;simp at hv;subst hv;rfl)
  |j+3=>simp at hc)
 have V3:=sc_EX (a0:=a0) (a1:=a1) (changeVals_ok m cQ hT [] cQ_ok hT1 (fun _ h=>absurd rfl h) (by simp) (by decide));rw[show valsA cQ hT []=([],42) by kernel_rfl]at V3;have V3':zC (glX a0 a1 m) 31 [clT cQ,chT hT,.pv (.v (.slice none 0 0))] [] (valsT ([],42)) []:=V3.inp rfl (fun j c d hc hd=>by
  match j with
  |0=>cases hc;cases hd;exact .refl _
  |1=>cases hc;cases hd;exact .refl _
  |2=>cases hc;cases hd;exact wk_nil 4
  |j+3=>simp at hc)
 have T1':zC (glX a0 a1 m) 39 [.pv (.sl 4 (V.rows [tx [97,98],tx [99]])),.pv (.sl 4 ([tx [97,98],tx [99]].map rvN))] [] (B true) []:=T1.inp rfl (fun j c d hc hd=>by
  match j with
  |0=>cases hc;cases hd;exact .refl _
  |1=>cases hc;cases hd;exact wk_flat (by intro v hv;simp at hv;rcases hv with rfl|rfl<;>rfl)
  |j+2=>simp at hc)
 have T2':zC (glX a0 a1 m) 39 [.pv (.sl 4 (V.rows [tx [55]])),.pv (.sl 4 ([tx [55]].map rvN))] [] (B true) []:=T2.inp rfl (fun j c d hc hd=>by
  match j with
  |0=>cases hc;cases hd;exact .refl _
  |1=>cases hc;cases hd;exact wk_flat (by intro v hv;simp at hv;subst hv;rfl)
  |j+2=>simp at hc)
 clear V1 V2 V3 T1 T2;unfold applyT valsT at*
 dsimp only at*
 generalize V.rows [tx [97,98],tx [99]]=r1 at*;generalize V.rows [tx [55]]=r2 at*;generalize encC hT=e at*;have w2:IntKind.i64.wrap (Int.tdiv (e.length:Int) 2)=((e.length / 2:Nat):Int):=by rw[show Int.tdiv (e.length:Int) 2=((e.length / 2:Nat):Int) from rfl,wrap64 (by omega) (by omega)]
 unfold clT chT flR hS hT cP cQ cD cM chg0 tx rvN B at*;simp only[List.map_cons,List.map_nil]at*;refine z43 tf_112 ?_;refine z8 A1 ?_;refine z8 V1' ?_;refine z8 A2 ?_;refine z8 V2' ?_;refine z8 A3 ?_;refine z8 V3' ?_;refine z8 EN ?_;refine z7 DE ?_;simp only[vW,seval,w2];refine⟨⟨by omega,by omega⟩,?_⟩;refine z8 DC ?_;refine z8 S1 ?_;refine z8 T1' ?_;refine z8 S2 ?_;refine z8 T2' ?_;refine z8 SS ?_;refine z8 R1 ?_;exact z14 R2
end Go.Proofs.YtcpaleaajdilgaaGreatDoor
end

section
namespace Go.Mor
open Go
section
open Go.RowKit
theorem mkVals_at{fs:List Fld}{l:List Int}{many:Int}{i:Nat}{f:Fld}(h:fs[i]?=some f):(mkVals fs l many)[i]?=some (mkVal f.t (rawN l i) many):=by grind [mkVals]
theorem z187(fs:List Fld)(l:List Int)(many:Int):(mkVals fs l many).length=fs.length:=by unfold mkVals;exact List.length_mapIdx
theorem GoodC.type{c:Cls}(h:GoodC c){f:Fld}(hf:f∈c.fs):z16 f.t=true:=by
 have:=(h.fs f hf).1;unfold z26 at this
 grind
theorem vals_fit{c:Cls}(h:GoodC c)(l:List Int){many:Int}(hm:many≤100000){i:Nat}{f:Fld}{v:V}(hf:c.fs[i]?=some f)(hv:(mkVals c.fs l many)[i]?=some v):fitsV v f.t=true:=by
 rw[mkVals_at hf]at hv;cases hv;exact(fits_mkVal f.t _ many (h.type (gM hf)) hm).1
end
structure FitC(c:Cls)(vals:List V):Prop where
 r:z19 c=true
 len:vals.length=c.fs.length
 fit:∀(i:Nat) f v,c.fs[i]?=some f→vals[i]?=some v→fitsV v f.t=true
theorem FitC.chk{c:Cls}{vals:List V}(h:FitC c vals):check c vals=(0,0):=check_ok h.r h.len h.fit
theorem step_ok{c:Cls}{vals:List V}{h:Chg}(hf:FitC c vals)(hw:wellV h=true)(hm:mayV c h=true):applyV c h=(⟨c.n,z39 c h⟩,0)∧valsA c h vals=(valsV c h vals,0):=by
 have ho:okV c h=true:=by unfold okV;rw[hf.r,hw,hm];rfl
 unfold applyV valsA;rw[hf.chk,ho,hf.r];simp
theorem putL_one{α:Type}{l:List α}{i:Nat}(h:i<l.length)(x:α):putL l i [x]=l.set i x:=by
 grind [putL,List.set_eq_take_append_cons_drop,List.append_assoc]
theorem right_at{c:Cls}(h:z19 c=true){i:Nat}{f:Fld}(hi:c.fs[i]?=some f):z11 f.n=true∧fieldAt c.fs f.n=i∧z26 f=true∧i<c.fs.length:=by
 have:=(z99 c).1 h;have hf:=this.2.2.1 f (gM hi);unfold z26 at hf
 grind [dist_at,List.getElem?_eq_some_iff]
theorem getD_of{l:List Fld}{i:Nat}{f:Fld}(h:l[i]?=some f):l.getD i fld0=f:=by grind
structure Step(c:Cls)(vals:List V)(h:Chg)(d:Cls)(u:List V):Prop where
 ap:applyV c h=(d,0)
 va:valsA c h vals=(u,0)
 fit:FitC d u
end Go.Mor
end

section
namespace Go.Proofs.YtcpaleaajdilgaaGreatDoor
open Go Go.RowKit Go.Mor
section
open Go.Sh Go.Sh.Cd1 Go.Sh.Cd6
theorem pick4_ok(g:Sh.Glob)(c n:Int)(hc:I64 c)(hn:0<n):zC g 45 [I c,I n] [] (I (Go.Mor.pick c n)) []:=by
 obtain⟨h0,h1⟩:=hc;refine z10 tf_107 ?_;have hne:¬n=0:=by omega
 unfold Go.Mor.pick;by_cases hneg:c<0
 ·rw[if_pos hneg];have w1:IntKind.i64.wrap (c+1)=c+1:=wrap64 (by omega) (by omega);have w2:IntKind.i64.wrap (0-(c+1))= -(c+1):=wG;have hm:(-(c+1)).tmod n=(-(c+1))%n:=Int.tmod_eq_emod_of_nonneg (by omega);simp only[vW,seval,hneg,hne,w1,w2,hm]
 ·rw[if_neg hneg];have hm:c.tmod n=c%n:=Int.tmod_eq_emod_of_nonneg (by omega);simp only[vW,seval,hneg,hne,hm]
theorem txts_at{i:Nat}(h:i<8):([[PV.v (.string ⟨#[]⟩)],[.v (.string ⟨#[97]⟩)],[.v (.string ⟨#[98,99]⟩)],[.v (.string ⟨#[195,169,116,195,169]⟩)],[.v (.string ⟨#[97,32,98]⟩)],[.v (.string ⟨#[122,122,32,116,111,112]⟩)],[.v (.string ⟨#[48]⟩)],[.v (.string ⟨#[45,55]⟩)]]:List (List PV))[i]?=some [.v (.string (str (txts (i:Int))))]:=by
 have:i=0∨i=1∨i=2∨i=3∨i=4∨i=5∨i=6∨i=7:=by omega
 rcases this with rfl|rfl|rfl|rfl|rfl|rfl|rfl|rfl<;>rfl
theorem mkVal1_l(k n many:Int):(mkVal1 k n many).l=[]:=by
 unfold mkVal1
 repeat' split
 all_goals rfl
theorem valOf1_ok(g:Sh.Glob)(t:Ty)(n many:Int)(ht:1≤t.k∧t.k≤4)(hn:I64 n)(hm:1≤many∧many≤100000):zC g 47 [tyT t,I n,I many] [] (nv (mkVal1 t.k n many)) []:=by
 obtain⟨k,o⟩:=t;simp only at ht;have hk:k=1∨k=2∨k=3∨k=4:=by omega
 unfold mkVal1;unfold tyT;simp only[];have h34:∀j:Int,(j=3∨j=4)→zC g 47 [.agg [I j,I o],I n,I many] [] (nv (if many<1∨Go.Mor.pick n 5=4 then V.nil else .mk j (1+Go.Mor.pick n many) [] [])) []:=by
  intro j hj;have P5:=pick4_ok g n 5 hn (by decide);have PM:=pick4_ok g n many hn (by omega);have hb:=z25 n many (by omega);have d1:¬many<1:=by omega
  have w1:IntKind.i64.wrap (1+Go.Mor.pick n many)=1+Go.Mor.pick n many:=wrap64 (by omega) (by omega);refine z10 tf_105 ?_;unfold nv;generalize Go.Mor.pick n many=b at*;generalize Go.Mor.pick n 5=a at*;by_cases h4:a=4
  ·rw[if_pos (.inr h4)];rcases hj with rfl|rfl
   ·simp only[vW,seval,d1];refine z7 P5 ?_;simp only[vW,seval,h4];rfl
   ·simp only[vW,seval,d1];refine z7 P5 ?_;simp only[vW,seval,h4];rfl
  ·rw[if_neg (fun h=>h.elim (fun h=>by omega) h4)];rcases hj with rfl|rfl
   ·simp only[vW,seval,d1];refine z7 P5 ?_;simp only[vW,seval,h4];refine z7 PM ?_;simp only[vW,seval,w1];rfl
   ·simp only[vW,seval,d1];refine z7 P5 ?_;simp only[vW,seval,h4];refine z7 PM ?_;simp only[vW,seval,w1];rfl
 rcases hk with rfl|rfl|rfl|rfl
 ·have P:=pick4_ok g n 41 hn (by decide);have hb:=z25 n 41 (by decide);have w1:IntKind.i64.wrap (Go.Mor.pick n 41-20)=Go.Mor.pick n 41-20:=wrap64 (by omega) (by omega);rw[if_pos rfl];generalize Go.Mor.pick n 41=b at*;refine z10 tf_105 ?_;unfold nv;simp only[vW,seval];refine z7 P ?_;simp only[vW,seval,w1];rfl
 ·have P:=pick4_ok g n 8 hn (by decide);have hb:=z25 n 8 (by decide);rw[if_neg (show ¬(2:Int)=1 by decide),if_pos rfl];obtain⟨i,hi⟩:=Int.eq_ofNat_of_zero_le hb.1;rw[hi]at P hb ⊢;have e1:=txts_at (i:=i) (by omega);refine z10 tf_105 ?_;unfold nv;simp only[vW,seval];refine z7 P ?_;simp only[vW,seval,e1]
 ·rw[if_neg (show ¬(3:Int)=1 by decide),if_neg (show ¬(3:Int)=2 by decide)];exact h34 3 (.inl rfl)
 ·rw[if_neg (show ¬(4:Int)=1 by decide),if_neg (show ¬(4:Int)=2 by decide)];exact h34 4 (.inr rfl)
def iiR(l:List Int):List (List PV):=l.map fun z=>[PV.v (.int .i64 z)]
theorem iiGet(l:List Int)(k:Nat):(iiR l)[k]?=(l[k]?).map fun z=>[PV.v (.int .i64 z)]:=by unfold iiR;rw[List.getElem?_map]
theorem iiLen(l:List Int):(iiR l).length=l.length:=by unfold iiR;rw[List.length_map]
def mkL(o n many:Int)(i:Nat):List V:=(List.range i).map fun i:Nat=>mkVal1 o (n.tdiv 4+(i:Int)) many
theorem mkL_succ(o n many:Int)(i:Nat):mkL o n many (i+1)=mkL o n many i++[mkVal1 o (n.tdiv 4+(i:Int)) many]:=by unfold mkL;rw[List.range_succ,List.map_append];rfl
theorem mkL_len(o n many:Int)(i:Nat):(mkL o n many i).length=i:=by simp[mkL]
theorem valOf5_ok(g:Sh.Glob)(o n many:Int)(ho:1≤o∧o≤4)(hn:I64 n)(hm:1≤many∧many≤100000):zC g 47 [tyT ⟨5,o⟩,I n,I many] [] (tv (mkVal ⟨5,o⟩ n many)) []:=by
 have P4:=pick4_ok g n 4 hn (by decide);have hb:=z25 n 4 (by decide);have hn':=hn;obtain⟨n0,n1⟩:=hn';obtain⟨q,hq⟩:=Int.eq_ofNat_of_zero_le hb.1;have e1:mkVal ⟨5,o⟩ n many=.mk 5 0 [] (mkL o n many q):=by unfold mkVal mkL;rw[if_pos rfl,hq];rfl
 rw[e1];rw[hq]at P4 hb;refine z118 tf_105 ?_;unfold tv tyT;simp only[vW,seval];refine v_loop (σ:={i:Nat // i≤q}) (fun i=>⟨[(1,I n),(2,I many),(3,.ptr 3 0),(6,.ptr 6 0),(8,.ptr 8 0),(9,I (i.1:Int))],
   [(3,[I 5,I o]),(6,[I 0,I 0,S ⟨#[]⟩,nilT]),(8,[I 5,I 0,S ⟨#[]⟩,.own 3000 4 (V.rows (mkL o n many i.1))])],[(3000,(37,4,i.1))],[]⟩) (fun i=>q-i.1) ⟨0,Nat.zero_le _⟩ ?_ ?_
 ·refine ES.Lw.trans ?_ (adB_lw (x:=8) (j:=3) (d:=3000) (e:=37) (W:=4) (.inr (by decide)) (by decide) rfl (by simp only[vcA,seval]) rfl);exact lw_eq rfl
 rintro⟨i,hi⟩;have hlen:=mkL_len o n many i;by_cases hlt:i<q
 ·have d1:(i:Int)<(q:Int):=by omega
  have w1:=wS i;have t0: -9223372036854775808≤n.tdiv 4∧n.tdiv 4≤2305843009213693952:=by
   rcases Int.le_total 0 n with h|h
   ·rw[Int.tdiv_eq_ediv_of_nonneg h];omega
   ·have:n.tdiv 4= -((-n).tdiv 4):=by rw[Int.neg_tdiv];omega
    rw[this,Int.tdiv_eq_ediv_of_nonneg (by omega)];omega
  have w2:IntKind.i64.wrap (n.tdiv 4)=n.tdiv 4:=wrap64 (by omega) (by omega);have w3:IntKind.i64.wrap (n.tdiv 4+(i:Int))=n.tdiv 4+(i:Int):=wrap64 (by omega) (by omega);have HV:=(valOf1_ok g ⟨o,0⟩ (n.tdiv 4+(i:Int)) many ho ⟨by omega,by omega⟩ hm).out (nv_tv (mkVal1_l _ _ _));unfold tv tyT at HV;rw[mkVal1_l,V.rows_nil]at HV;simp only[vW,seval,nilT];refine z7 P4 ?_;simp only[vW,seval,d1,w2,w3];refine Or.inl ?_;refine z7 HV ?_;simp only[vW,seval,hlen,w1];refine⟨⟨by omega,by unfold maxLen;omega⟩,z13 ⟨i+1,hlt⟩ (by show q-(i+1)<q-i;omega) ?_⟩;refine lw_eq ?_;simp only[mkL_succ,z100,row_of_nil (mkVal1_l _ _ _),mkVal1_l,V.rows_nil]
 ·obtain rfl:i=q:=by omega
  have d1:¬(i:Int)<(i:Int):=by omega
  simp only[vW,seval,nilT];refine z7 P4 ?_;simp only[vW,seval,d1];all_goals rfl
theorem mkVal_1{t:Ty}(h:¬t.k=5)(n many:Int):mkVal t n many=mkVal1 t.k n many:=by unfold mkVal;rw[if_neg h]
theorem valOf4_ok(g:Sh.Glob)(t:Ty)(n many:Int)(ht:z16 t=true)(hn:I64 n)(hm:1≤many∧many≤100000):zC g 47 [tyT t,I n,I many] [] (tv (mkVal t n many)) []:=by
 obtain⟨k,o⟩:=t;unfold z16 at ht;by_cases h:k=5
 ·subst h;rw[if_pos rfl,decide_eq_true_iff]at ht;exact valOf5_ok g o n many ht hn hm
 ·rw[if_neg h,decide_eq_true_iff]at ht;rw[mkVal_1 h];exact(valOf1_ok g ⟨k,o⟩ n many ⟨ht.1,ht.2.1⟩ hn hm).out (nv_tv (mkVal1_l _ _ _))
theorem rawN_at{l:List Int}{i:Nat}(h:l≠[]):∃z,l[i%l.length]?=some z∧rawN l i=IntKind.i64.wrap (z+i):=by
 have hp:0<l.length:=List.length_pos_iff.2 h;refine⟨_,gE (Nat.mod_lt _ hp),?_⟩;unfold rawN;rw[if_neg h,List.getD_eq_getElem?_getD,gE (Nat.mod_lt _ hp)];rfl
theorem wrap_64(x:Int):I64 (IntKind.i64.wrap x):=by unfold I64;rw[IntKind.wrap_i64];omega
theorem valsOf4_ok(g:Sh.Glob)(c:Cls)(l:List Int)(many:Int)(hc:∀f∈c.fs,z16 f.t=true)(hl:c.fs.length≤1000)(hll:l.length≤9223372036854775807)(hm:1≤many∧many≤100000):
  zC g 13 [clT c,.pv (.sl 1 (iiR l)),I many] [] (.pv (.sl 4 (V.rows (mkVals c.fs l many)))) []:=by
 refine z118 tf_106 ?_;simp only[vW,seval,clV];refine v_loop (σ:={i:Nat // i≤c.fs.length}) (fun i=>⟨[(1,.pv (.sl 1 (iiR l))),(2,I many),(3,.ptr 3 0),(7,.own 3000 4 (V.rows ((mkVals c.fs l many).take i.1))),(8,I (i.1:Int))],
   [(3,[S (str c.n),.pv (.sl 4 (flR c.fs))])],[(3000,(37,4,i.1))],[]⟩) (fun i=>c.fs.length-i.1) ⟨0,Nat.zero_le _⟩ ?_ ?_
 ·refine ES.Lw.trans ?_ (adT_lw (k:=7) (d:=3000) (e:=37) (W:=4) (.inr (by decide)) rfl);exact lw_eq rfl
 rintro⟨i,hi⟩;have hlen:((mkVals c.fs l many).take i).length=i:=by rw[List.length_take,z187];omega
 by_cases hlt:i<c.fs.length
 ·have d1:(i:Int)<(c.fs.length:Int):=by omega
  obtain⟨f,ef⟩:∃f,c.fs[i]?=some f:=⟨_,gE hlt⟩
  have w1:=wS i;have htk:(mkVals c.fs l many).take (i+1)=(mkVals c.fs l many).take i++[mkVal f.t (rawN l i) many]:=by rw[List.take_add_one,mkVals_at ef];rfl
  have hN:I64 (rawN l i):=by
   unfold rawN;split
   ·exact⟨by omega,by omega⟩
   ·exact wrap_64 _
  have HV:=valOf4_ok g f.t (rawN l i) many (hc f (gM ef)) hN hm;unfold tv tyT at HV;by_cases h0:l=[]
  ·have hr:rawN l i=(i:Int):=by unfold rawN;rw[if_pos h0]
   have d2:¬0<(l.length:Int):=by rw[h0];decide
   rw[hr]at HV htk;simp only[vW,seval,d1,d2,iiLen,ef,clV];refine Or.inl ?_;refine z7 HV ?_;simp only[vW,seval,hlen,w1];refine⟨⟨by omega,by unfold maxLen;omega⟩,z13 ⟨i+1,hlt⟩ (by show c.fs.length-(i+1)<c.fs.length-i;omega) ?_⟩;refine lw_eq ?_;simp only[htk,z100,row4]
  ·obtain⟨z,hz,hr⟩:=rawN_at (i:=i) h0;have hp:0<l.length:=List.length_pos_iff.2 h0;have d2:0<(l.length:Int):=by omega
   have d3:¬(l.length:Int)=0:=by omega
   have hmm:(i:Int).tmod (l.length:Int)=((i%l.length:Nat):Int):=(Int.ofNat_tmod _ _).symm;rw[hr]at HV htk;simp only[vW,seval,d1,d2,iiLen,d3,hmm,iiGet,hz,ef,clV];refine Or.inl ?_;refine z7 HV ?_;simp only[vW,seval,hlen,w1];refine⟨⟨by omega,by unfold maxLen;omega⟩,z13 ⟨i+1,hlt⟩ (by show c.fs.length-(i+1)<c.fs.length-i;omega) ?_⟩;refine lw_eq ?_;simp only[htk,z100,row4]
 ·obtain rfl:i=c.fs.length:=by omega
  have d1:¬(c.fs.length:Int)<(c.fs.length:Int):=by omega
  simp only[vW,seval,d1,clV];rw[List.take_of_length_le (by rw[z187];omega)]
theorem flR_snoc(l:List Fld)(f:Fld):flR (l++[f])=flR l++[flR1 f]:=by unfold flR;rw[List.map_append];rfl
theorem field_tuple(l:List Fld)(s:zB):∃(p:Int) (t:Bool),fieldT l s=.tuple [I p,.pv (.v (.bool t))]∧(fieldAt l s<0 ↔ t=false):=by
 unfold fieldT B;by_cases h:fieldAt l s<0
 ·rw[if_pos h];exact⟨0,false,rfl,fun _=>rfl,fun _=>h⟩
 ·rw[if_neg h];exact⟨_,true,rfl,fun h'=>absurd h' h,fun h'=>by cases h'⟩
theorem classOf4_ok(g:Sh.Glob)(x:Raw)(hx:RawOk x):zC g 12 [rawT x] [] (clT (z52 x)) []:=by
 have PN:=pick4_ok g x.n 6 hx.n (by decide);have hb:=z25 x.n 6 (by decide);have hlx:=hx.len;obtain⟨q,hq⟩:=Int.eq_ofNat_of_zero_le hb.1;have ec:=nmC_at (i:=q) (by omega);have e0:z52 x=⟨nmC (q:Int),(x.fs.take 6).foldl addF []⟩:=by unfold z52;rw[hq]
 rw[e0];rw[hq]at PN;refine z118 tf_104 ?_;unfold rawT clT;simp only[vW,seval];refine z7 PN ?_;simp only[vW,seval,ec];refine v_loop (σ:={i:Nat // i≤x.fs.length∧i≤6}) (fun i=>⟨[(1,.ptr 1 0),(2,.ptr 2 0),(3,.pv (.sl 1 [[PV.v (.string ⟨#[97]⟩)],[.v (.string ⟨#[98,50]⟩)],[.v (.string ⟨#[110,97,109,101]⟩)],[.v (.string ⟨#[110,101,120,116,95,111,110,101]⟩)],[.v (.string ⟨#[107,105,100,115]⟩)],[.v (.string ⟨#[120]⟩)]])),(4,.ptr 4 0),(5,I (i.1:Int))],
   [(1,[I x.n,.pv (.sl 4 (rfR x.fs))]),(2,[S ⟨#[]⟩,nilT]),(4,[S (str (nmC (q:Int))),.own 3000 4 (flR ((x.fs.take i.1).foldl addF []))])],[(3000,(55,4,((x.fs.take i.1).foldl addF []).length))],[]⟩) (fun i=>6-i.1) ⟨0,Nat.zero_le _,Nat.zero_le _⟩ ?_ ?_
 ·refine ES.Lw.trans ?_ (adB_lw (x:=4) (j:=1) (d:=3000) (e:=55) (W:=4) (.inr (by decide)) (by decide) rfl (by simp only[vcA,seval]) rfl);exact lw_eq rfl
 rintro⟨i,hi,hi6⟩;by_cases hlt:i<x.fs.length∧i<6
 ·obtain⟨hlt,hl6⟩:=hlt;have d1:(i:Int)<(x.fs.length:Int):=by omega
  have d2:(i:Int)<6:=by omega
  obtain⟨r,er⟩:∃r,x.fs[i]?=some r:=⟨_,gE hlt⟩
  have w1:=wS i;obtain⟨r1,r2,r3⟩:=hx.fs r (gM er);have P1:=pick4_ok g r.n 6 r1 (by decide);have P2:=pick4_ok g r.k 5 r2 (by decide);have P3:=pick4_ok g r.o 4 r3 (by decide);have b1:=z25 r.n 6 (by decide);have b2:=z25 r.k 5 (by decide);have b3:=z25 r.o 4 (by decide);have hst:=class_step x.fs i r er;have hal:=class_len x.fs i;rw[addF]at hst;have hF:z134 r=⟨nmF (Go.Mor.pick r.n 6),⟨1+Go.Mor.pick r.k 5,if Go.Mor.pick r.k 5=4 then 1+Go.Mor.pick r.o 4 else 0⟩,r.ix&&decide (1+Go.Mor.pick r.k 5≤3)⟩:=rfl;rw[hF]at hst;simp only[]at hst;obtain⟨j,hj⟩:=Int.eq_ofNat_of_zero_le b1.1;have ej:=nmF_at (i:=j) (by omega);rw[hj]at P1 hst;change _=(if fieldAt ((x.fs.take i).foldl addF []) (nmF (j:Int))<0 then _ else(x.fs.take i).foldl addF [])at hst;generalize(x.fs.take i).foldl addF []=acc at*;generalize Go.Mor.pick r.k 5=b at*;generalize Go.Mor.pick r.o 4=o at*;have HF:=refField_ok g ⟨nmC (q:Int),acc⟩ (nmF (j:Int)) (by show acc.length≤_;omega);obtain⟨p,t,hp,ht⟩:=field_tuple acc (nmF (j:Int));rw[show fieldT (Cls.fs ⟨nmC (q:Int),acc⟩) (nmF (j:Int))=_ from hp]at HF;unfold clT at HF;have w2:IntKind.i64.wrap (1+b)=1+b:=wrap64 (by omega) (by omega)
  have w3:IntKind.i64.wrap (1+o)=1+o:=wrap64 (by omega) (by omega);have hfl:=flLen acc;by_cases h4:b=4
  ·have d5:1+b=5:=by omega
   have d3:¬1+b≤3:=by omega
   have hix:(r.ix&&decide (1+b≤3))=false:=by rw[decide_eq_false d3,Bool.and_false]
   rw[if_pos h4,hix,d5]at hst;have w5:IntKind.i64.wrap 5=5:=wrap64 (by omega) (by omega);cases hr:r.ix;all_goals(
    simp only[vW,seval,rfGet,rfLen,rfR1,d1,d2,er,nilT];refine z7 P1 ?_;simp only[vW,seval,ej];refine z7 P2 ?_;simp only[vW,seval,w2,d5,w5];refine z7 P3 ?_;simp only[vW,seval,w3,hr];refine z7 HF ?_;cases t
    ·rw[if_pos (ht.2 rfl)]at hst;simp only[vW,seval,hfl,w1];refine⟨⟨by omega,by unfold maxLen;omega⟩,z13 ⟨i+1,hlt,hl6⟩ (by show 6-(i+1)<6-i;omega) ?_⟩;simp only[hst,flR_snoc,List.length_append,List.length_singleton];apply lw_of<;>simp[leL,lk,sv,Nat.beq,I,S,ES.kill,has,drp,nilT,flR1]
    ·rw[if_neg (fun h=>Bool.noConfusion (ht.1 h))]at hst;simp only[vW,seval,w1];refine z13 ⟨i+1,hlt,hl6⟩ (by show 6-(i+1)<6-i;omega) ?_;simp only[hst];exact lwA)
  ·have d5:¬1+b=5:=by omega
   rw[if_neg h4]at hst;have hc:(r.ix=false∧(True∨False)∧(r.ix&&decide (1+b≤3))=false)∨(r.ix=true∧1+b≤3∧(r.ix&&decide (1+b≤3))=true)∨(r.ix=true∧¬1+b≤3∧(r.ix&&decide (1+b≤3))=false):=by
    cases r.ix
    ·exact .inl ⟨rfl,.inl trivial,rfl⟩
    ·by_cases h:1+b≤3
     ·exact .inr (.inl ⟨rfl,h,by rw[decide_eq_true h];rfl⟩)
     ·exact .inr (.inr ⟨rfl,h,by rw[decide_eq_false h];rfl⟩)
   rcases hc with⟨hr,d3,hix⟩|⟨hr,d3,hix⟩|⟨hr,d3,hix⟩
   all_goals(
    rw[hix]at hst;simp only[vW,seval,rfGet,rfLen,rfR1,d1,d2,er,nilT];refine z7 P1 ?_;simp only[vW,seval,ej];refine z7 P2 ?_;simp only[vW,seval,w2,d5,hr,d3];refine z7 HF ?_;cases t
    ·rw[if_pos (ht.2 rfl)]at hst;simp only[vW,seval,hfl,w1];refine⟨⟨by omega,by unfold maxLen;omega⟩,z13 ⟨i+1,hlt,hl6⟩ (by show 6-(i+1)<6-i;omega) ?_⟩;simp only[hst,flR_snoc,List.length_append,List.length_singleton];apply lw_of<;>simp[leL,lk,sv,Nat.beq,I,S,ES.kill,has,drp,nilT,flR1]
    ·rw[if_neg (fun h=>Bool.noConfusion (ht.1 h))]at hst;simp only[vW,seval,w1];refine z13 ⟨i+1,hlt,hl6⟩ (by show 6-(i+1)<6-i;omega) ?_;simp only[hst];exact lwA)
 ·have he:(x.fs.take i).foldl addF []=(x.fs.take 6).foldl addF []:=by
   by_cases h:i<6
   ·have h1:x.fs.length≤i:=by omega
    rw[List.take_of_length_le h1,List.take_of_length_le (by omega)]
   ·obtain rfl:i=6:=by omega
    rfl
  rw[←he];by_cases hl:i<x.fs.length
  ·have d1:(i:Int)<(x.fs.length:Int):=by omega
   have d2:¬(i:Int)<6:=by omega
   simp only[vW,seval,rfLen,d1,d2,nilT]
  ·have d1:¬(i:Int)<(x.fs.length:Int):=by omega
   simp only[vW,seval,rfLen,d1,nilT]
end
section
open Go.Sh Go.Sh.Cd1 Go.Sh.Cd7
theorem clsR_ok{c:Cls}(h:z19 c=true):ClsOk c∧c.fs.length≤8:=by
 have hr:=(z99 c).1 h;have key:∀s,z11 s=true→Short s:=fun s hs=>by
  unfold z11 at hs;simp only[Bool.and_eq_true,decide_eq_true_eq]at hs;have:=hs.1.1.2;unfold Short;omega
 refine⟨⟨key _ hr.1,fun f hf=>key _ ?_,by omega⟩,hr.2.1⟩;have:=hr.2.2.1 f hf;unfold z26 at this;simp only[Bool.and_eq_true]at this;exact this.1.1
end
section
structure RowT(α:Type) where
 e:TypeId
 t:TypeId
 size:Nat
 bytes:Nat
 zero:Value
 cells:α→List Value
 len:∀x,(cells x).length=size
 one:∀x u,u∈cells x→u.oneCell'=true
 pos:0<size
 few:bytes≤1000
 und:Tryz.prog.underlying t=some (.slice e)
 info:(Tryz.prog.info? e).map (fun i=>(i.zero,i.size,i.bytes))=some (some zero,size,bytes)
 zlen:zero.cells.size=size
variable{α:Type}(R:RowT α)
def IsR(ok:Nat→Prop)(w:World)(l:List α)(c:Value):Prop:=
 ∃(b off cap:Nat) (p:Option Addr),c=.slice p l.length cap∧l.length≤cap∧cap≤maxLen∧(l≠[]→p=some ⟨b,off,none⟩∧ok b)∧(p=none→c=.slice none 0 0)∧
  ∀(i:Nat) (x:α),l[i]?=some x→∀(j:Nat) (u:Value),(R.cells x)[j]?=some u→w.cell? ⟨b,off+i*R.size+j,none⟩=some u
def OwnR(base:Nat)(w:World)(v:Value)(l:List α):Prop:=w.ownsRow base R.e R.size v l.length (l.flatMap R.cells)
variable{R}
theorem IsR.keepBy{ok:Nat→Prop}{w w':World}{l:List α}{c:Value}(h:IsR R ok w l c)(hk:∀a v,ok a.block→w.cell? a=some v→w'.cell? a=some v):IsR R ok w' l c:=by
 obtain⟨b,off,cap,p,h1,h2,h3,h4,h6,h5⟩:=h;refine⟨b,off,cap,p,h1,h2,h3,h4,h6,fun i x hx j u hu=> ?_⟩;exact hk _ _ (h4 (by rintro rfl;simp at hx)).2 (h5 i x hx j u hu)
theorem IsR.ext{ok:Nat→Prop}{w w':World}{l:List α}{c:Value}(h:IsR R ok w l c)(hb:Below w.heap.size w w'):IsR R ok w' l c:=
 h.keepBy fun _ _ _ hv=>(hb.cell (z38 hv)).trans hv
theorem IsR.weaken{ok ok':Nat→Prop}{w:World}{l:List α}{c:Value}(h:IsR R ok w l c)(hk:∀b,ok b→ok' b):IsR R ok' w l c:=by
 obtain⟨b,off,cap,p,h1,h2,h3,h4,h5⟩:=h;exact⟨b,off,cap,p,h1,h2,h3,fun hl=>⟨(h4 hl).1,hk _ (h4 hl).2⟩,h5⟩
theorem IsR.at{ok:Nat→Prop}{w:World}{l:List α}{p:Option Addr}{n cap:Nat}(h:IsR R ok w l (.slice p n cap))(hl:0<l.length):
  ∃b off,p=some ⟨b,off,none⟩∧ok b∧b<w.heap.size∧∀(i:Nat) (x:α),l[i]?=some x→∀(j:Nat) (u:Value),(R.cells x)[j]?=some u→w.cell? ⟨b,off+i*R.size+j,none⟩=some u:=by
 obtain⟨b,off,cap',p',h1,h2,h3,h4,h6,h5⟩:=h;obtain⟨rfl,_,_⟩:p=p'∧_:=by simpa using h1
 have hne:l≠[]:=by rintro rfl;simp at hl
 refine⟨b,off,(h4 hne).1,(h4 hne).2,?_,h5⟩;obtain⟨x,hx⟩:∃x,l[0]?=some x:=⟨_,gE hl⟩
 have hpos:=R.pos;obtain⟨u,hu⟩:∃u,(R.cells x)[0]?=some u:=⟨_,gE (by rw[R.len];exact hpos)⟩
 exact z38 (h5 0 x hx 0 u hu)
theorem IsR.cell{ok:Nat→Prop}{w:World}{l:List α}{g o n cap:Nat}(h:IsR R ok w l (.slice (some ⟨g,o,none⟩) n cap)){i:Nat}{x:α}(hx:l[i]?=some x){j:Nat}{u:Value}(hu:(R.cells x)[j]?=some u):w.cell? ⟨g,o+i*R.size+j,none⟩=some u:=by
 obtain⟨b,off,cap',p',h1,h2,h3,h4,h6,h5⟩:=h;have hne:l≠[]:=by rintro rfl;simp at hx
 obtain⟨hp,_⟩:=h4 hne;subst hp;have h1a:(⟨g,o,none⟩:Addr)=⟨b,off,none⟩:=by injection h1 with h1;injection h1
 have hgb:g=b:=congrArg Addr.block h1a;have hof:o=off:=congrArg Addr.off h1a;have:=h5 i x hx j u hu;rw[←hgb,←hof]at this;exact this
theorem IsR.low{B:Nat}{w w':World}{l:List α}{c:Value}(h:IsR R (fun b=>b<B) w l c)(hb:Below B w w'):IsR R (fun b=>b<B) w' l c:=
 h.keepBy fun _ _ ho hv=>(hb.cell ho).trans hv
theorem IsR.none_{ok:Nat→Prop}{w:World}:IsR R ok w [] (.slice none 0 0):=⟨0,0,0,none,rfl,by simp,Nat.zero_le _,by simp,fun _=>rfl,by simp⟩
theorem OwnR.nil(base:Nat)(w:World):OwnR R base w (.slice none 0 0) []:=⟨by simp,.inl ⟨rfl,rfl⟩⟩
theorem OwnR.below{base:Nat}{w:World}{v:Value}{l:List α}(h:OwnR R base w v l):∀k,v.ownBlock=some k→base≤k:=by
 rcases h.2 with⟨rfl,_⟩|⟨g,cap,cur,rfl,hg,_⟩
 ·intro k hk;cases hk
 ·intro k hk;cases hk;exact hg
theorem OwnR.lt{base:Nat}{w:World}{v:Value}{l:List α}(h:OwnR R base w v l):∀k,v.ownBlock=some k→k<w.heap.size:=by
 rcases h.2 with⟨rfl,_⟩|⟨g,cap,cur,rfl,hg,hc,_⟩
 ·intro k hk;cases hk
 ·intro k hk;cases hk;exact z89 hc
theorem OwnR.grown{base:Nat}{w w':World}{v:Value}{l:List α}{row:Option Nat}(h:OwnR R base w v l)(hg:w.grownBy w' row)(hr:∀k,row=some k→v.ownBlock≠some k):OwnR R base w' v l:=by
 refine⟨h.1,?_⟩;rcases h.2 with h|⟨g,cap,cur,rfl,h2,h3,h4⟩
 ·exact .inl h
 ·exact .inr ⟨g,cap,cur,rfl,h2,(hg.block g (z89 h3) (fun e=>hr g e.symm rfl)).trans h3,h4⟩
theorem OwnR.ext{base:Nat}{w w':World}{v:Value}{l:List α}(h:OwnR R base w v l)(hb:Below w.heap.size w w'):OwnR R base w' v l:=by
 refine⟨h.1,?_⟩;rcases h.2 with h|⟨g,cap,cur,h1,h2,h3,h4⟩
 ·exact .inl h
 ·exact .inr ⟨g,cap,cur,h1,h2,(hb.block g (z89 h3)).trans h3,h4⟩
theorem OwnR.ne{base:Nat}{w:World}{v:Value}{l:List α}(h:OwnR R base w v l){B t:Nat}{cs:Array Value}(hq:w.heap[B]?=some (.cells cs t (0,0)))(ht:t≠R.e):some B≠v.ownBlock:=by
 rcases h.2 with⟨rfl,_⟩|⟨g,cap,cur,rfl,hg,hc,_⟩
 ·intro k;cases k
 ·intro k;cases k;rw[hq]at hc;cases hc;exact ht rfl
theorem OwnR.keep{base:Nat}{w w':World}{v:Value}{l:List α}(h:OwnR R base w v l)(hg:w.grownBy w' v.ownBlock){B t:Nat}{cs:Array Value}(hq:w.heap[B]?=some (.cells cs t (0,0)))(ht:t≠R.e):w'.heap[B]?=some (.cells cs t (0,0)):=
 (hg.block B (z89 hq) (h.ne hq ht)).trans hq
theorem flatR_length(l:List α):(l.flatMap R.cells).length=l.length*R.size:=by
 induction l with
 |nil=>simp
 |cons f r ih=>rw[List.flatMap_cons,List.length_append,R.len,ih,List.length_cons,Nat.add_mul];omega
theorem flatR_get(l:List α)(i:Nat)(x:α)(h:l[i]?=some x)(j:Nat)(hj:j<R.size):(l.flatMap R.cells)[i*R.size+j]?=(R.cells x)[j]?:=by
 induction l generalizing i with
 |nil=>simp at h
 |cons g r ih=>
  rw[List.flatMap_cons];cases i with
  |zero=>
   simp at h;subst h;rw[List.getElem?_append_left (by rw[R.len];omega)];simp
  |succ i=>
   rw[List.getElem?_append_right (by rw[R.len,Nat.add_mul];omega),R.len];have:(i+1)*R.size+j-R.size=i*R.size+j:=by rw[Nat.add_mul];omega
   rw[this];exact ih i (by simpa using h)
theorem OwnR.isR{base:Nat}{w:World}{v:Value}{l:List α}(h:OwnR R base w v l):IsR R (fun b=>base≤b∧v.ownBlock=some b) w l v:=by
 rcases h.2 with⟨rfl,h0⟩|⟨g,cap,cur,rfl,hg,hc,hcap,hmax,hsz,htake⟩
 ·obtain rfl:l=[]:=List.eq_nil_of_length_eq_zero h0;exact IsR.none_
 ·refine⟨g,0,cap,_,rfl,hcap,hmax,fun _=>⟨rfl,hg,rfl⟩,(fun h=>by cases h),fun i x hx j u hu=> ?_⟩;have hi:i<l.length:=(gJ hx).1;have hj:j<R.size:=by rw[←R.len x];exact(gJ hu).1
  have hlt:i*R.size+j<l.length*R.size:=by
   have:=Nat.mul_le_mul_right R.size (show i+1≤l.length by omega);rw[Nat.add_mul]at this;omega
  rw[←hu,←flatR_get l i x hx j hj,←htake,List.getElem?_take_of_lt hlt];simp[World.cell?,hc]
theorem OwnR.at{base:Nat}{w:World}{p:Option Addr}{n cap:Nat}{l:List α}(h:OwnR R base w (.slice p n cap) l)(hl:0<l.length):∃g,p=some ⟨g,0,none⟩∧base≤g∧g<w.heap.size:=by
 rcases h.2 with⟨h1,h0⟩|⟨g,cap',cur,h1,hg,hc,_⟩
 ·omega
 ·refine⟨g,?_,hg,z89 hc⟩;injection h1
theorem OwnR.cell{base:Nat}{w:World}{g n cap:Nat}{l:List α}(h:OwnR R base w (.slice (some ⟨g,0,none⟩) n cap) l){i:Nat}{x:α}(hx:l[i]?=some x){j:Nat}{u:Value}(hu:(R.cells x)[j]?=some u):w.cell? ⟨g,i*R.size+j,none⟩=some u:=by
 obtain⟨b,off,cap',p',h1,h2,h3,h4,h6,h5⟩:=h.isR;have hne:l≠[]:=by rintro rfl;simp at hx
 obtain⟨hp,_⟩:=h4 hne;subst hp;have h1a:(⟨g,0,none⟩:Addr)=⟨b,off,none⟩:=by injection h1 with h1;injection h1
 have hgb:g=b:=congrArg Addr.block h1a;have hof:0=off:=congrArg Addr.off h1a;have:=h5 i x hx j u hu;rw[←hgb,←hof,Nat.zero_add]at this;exact this
theorem OwnR.any{base:Nat}{w:World}{v:Value}{l:List α}(h:OwnR R base w v l):IsR R (fun _=>True) w l v:=h.isR.weaken fun _ _=>trivial
theorem info_partsR{P:Program}{e:TypeId}{z:Option Value}{s b:Nat}(h:(P.info? e).map (fun i=>(i.zero,i.size,i.bytes))=some (z,s,b)):∃i,P.info? e=some i∧i.zero=z∧i.size=s∧i.bytes=b:=by
 obtain⟨i,hi,he⟩:=gO h;simp only[Prod.mk.injEq]at he;exact⟨i,hi,he.1,he.2.1,he.2.2⟩
theorem wp_appR1{o:Oper}{a:Act}{K:Act→World→Prop}{Q:Exit→Act→World→Prop}{w:World}(sl x:Operand)
  (ho:o.op=.call { callee:=.builtin .append,args:= #[sl,x],argTypes:= #[R.t,R.t] })
  {base:Nat} {v c:Value} {l m:List α} (hown:OwnR R base w v l) (hm:IsR R (fun _=>True) w m c) (hm0:0<m.length) (hs:a.eval sl=v) (hx:a.eval x=c) (hlen:l.length+m.length≤1000000) (hb:base≤w.heap.size)
  (h:∀L g cap w',Hid (L=l++m)→Hid (OwnR R base w' (.slice (some ⟨g,0,none⟩) L.length cap) L)→w.grownBy w' v.ownBlock→Hid (v.ownBlock=some g∨g=w.heap.size)→K (a.put o.dst (.slice (some ⟨g,0,none⟩) L.length cap)) w'):Oper.wp Tryz.prog o a w K Q:=by
 obtain⟨i0,hi,hz0,hz1,hz2⟩:=info_partsR R.info;obtain⟨b,off,cap,p,rfl,hcap,hmax,hp,hn,hc⟩:=hm;obtain⟨hpe,_⟩:=hp (by rintro rfl;simp at hm0);subst hpe;have hgo:∀g cap' w',w'.ownsRow base R.e R.size (.slice (some ⟨g,0,none⟩) (l.length+m.length) cap') (l.length+m.length) (l.flatMap R.cells++m.flatMap R.cells)→w.grownBy w' v.ownBlock→(v.ownBlock=some g∨g=w.heap.size)→g<w'.heap.size→K (a.put o.dst (.slice (some ⟨g,0,none⟩) (l.length+m.length) cap')) w':=by
  intro g cap' w' h1 h2 h3 _;have e:l.length+m.length=(l++m).length:=by simp
  rw[e]at h1 ⊢;refine h (l++m) g cap' w' rfl ?_ h2 h3;show OwnR R base w' _ _;unfold OwnR;simpa using h1
 refine wp_append_lies w sl x R.t ho base R.e i0 _ R.size R.bytes R.und hi hz0 hz1 hz2 R.zlen R.pos v l.length _ hs hown ⟨b,off,none⟩ m.length cap (m.flatMap R.cells) hx (flatR_length m) ?_ ?_ hm0 (by unfold maxLen;omega) ?_ hb w.heap.size rfl hgo
 ·intro j u hj;have hj':j<m.length*R.size:=by rw[←flatR_length];exact(gJ hj).1
  have hpos:=R.pos;have hdm:j / R.size*R.size+j%R.size=j:=by rw[Nat.mul_comm];exact Nat.div_add_mod j R.size
  have hd:j / R.size<m.length:=Nat.div_lt_of_lt_mul (by rw[Nat.mul_comm];exact hj');obtain⟨f,hf⟩:∃f,m[j / R.size]?=some f:=⟨_,gE hd⟩
  have hg:=flatR_get m (j / R.size) f hf (j%R.size) (Nat.mod_lt _ hpos);rw[hdm,hj]at hg;have:=hc _ f hf _ u hg.symm;rw[Addr.add_lit,show off+j=off+j / R.size*R.size+j%R.size by rw[Nat.add_assoc,hdm]];exact this
 ·intro u hu;obtain⟨f,_,hu⟩:=List.mem_flatMap.1 hu;exact R.one f u hu
 ·have:=R.few;have h1:(l.length+m.length)*R.bytes≤1000000*1000:=Nat.mul_le_mul hlen this;have h2:(1000000:Nat)*1000≤140737488355328:=by decide
  exact Nat.le_trans h1 h2
theorem wpList_appR1{ops:Array Oper}{rest:List Oper}{o:Oper}{a:Act}{Q:Exit→Act→World→Prop}{w:World}(hgd:o.guard=none)(sl x:Operand)
  (ho:o.op=.call { callee:=.builtin .append,args:= #[sl,x],argTypes:= #[R.t,R.t] })
  {base:Nat} {v c:Value} {l m:List α} (hown:OwnR R base w v l) (hm:IsR R (fun _=>True) w m c) (hm0:0<m.length) (hs:a.eval sl=v) (hx:a.eval x=c) (hlen:l.length+m.length≤1000000) (hb:base≤w.heap.size)
  (h:∀L g cap w',Hid (L=l++m)→Hid (OwnR R base w' (.slice (some ⟨g,0,none⟩) L.length cap) L)→w.grownBy w' v.ownBlock→Hid (v.ownBlock=some g∨g=w.heap.size)→wpList Tryz.prog ops Q rest (a.put o.dst (.slice (some ⟨g,0,none⟩) L.length cap)) w'):wpList Tryz.prog ops Q (o::rest) a w:=
 wpList_plain hgd fun _ hK=>wp_appR1 sl x ho hown hm hm0 hs hx hlen hb fun L g cap w' h1 h2 h3 h4=>hK _ _ (h L g cap w' h1 h2 h3 h4)
theorem isR_one{w:World}{b t:Nat}(x:α){cs:Array Value}(h:w.heap[b]?=some (.cells cs t (0,0)))(hcs:cs.toList=R.cells x):IsR R (fun _=>True) w [x] (.slice (some ⟨b,0,none⟩) 1 1):=by
 refine⟨b,0,1,_,rfl,by simp,by decide,fun _=>⟨rfl,trivial⟩,(fun h=>by cases h),fun i y hy j u hu=> ?_⟩;cases i with
 |zero=>
  simp at hy;subst hy;rw[←hcs]at hu;simp[World.cell?,h];simpa using hu
 |succ i=>simp at hy
end
structure VC where
 v:V
 p:Option Addr
 cap:Nat
def VC.c(y:VC):Value:=.slice y.p y.v.l.length y.cap
def cellsV(y:VC):List Value:=[.int .i64 y.v.k,.int .i64 y.v.n,.string (str y.v.s),.slice y.p y.v.l.length y.cap]
theorem infoVal:(Tryz.prog.info? 37).map (fun i=>(i.zero,i.size,i.bytes))=some (some (.agg #[.int .i64 0,.int .i64 0,.string ⟨#[]⟩,.slice none 0 0]),4,56):=by kernel_rfl
def VR:RowT VC where
 e:=37
 t:=31
 size:=4
 bytes:=56
 zero:=.agg #[.int .i64 0,.int .i64 0,.string ⟨#[]⟩,.slice none 0 0]
 cells:=cellsV
 len:=fun _=>rfl
 one:=by
  intro x u hu;simp[cellsV]at hu;rcases hu with rfl|rfl|rfl|rfl<;>rfl
 pos:=by decide
 few:=by decide
 und:=Tryz.underlying31
 info:=infoVal
 zlen:=rfl
end Go.Proofs.YtcpaleaajdilgaaGreatDoor
end

section
namespace Go.Sh
open Go Go.RowKit
theorem boxed_of{P:Program}{g:Glob}{f:Nat}{xs:List TV}{e W:Nat}{es:List (List PV)}(hW:0<W)(hne:es≠[])(hb:hasBody P f)
  (h:∀(w:World) (E:Env) (us:List Value),g.G w→(∀b o,E.K b o→b<w.heap.size)→xs.length=us.length→(∀(j:Nat) x v,xs[j]?=some x→us[j]?=some v→RelT w E (objR []) x v)→
   Calls P f us.toArray w fun o w'=>∃(v':Value) (K':Nat→Nat→Prop) (news:List Value) (F:Nat→Nat→Value),o=.returned v'∧w'.ownsRow w.heap.size e W v' es.length news∧Below w.heap.size w w'∧(∀b o,E.K b o→K' b o)∧
    (∀b o,K' b o→(E.K b o∨w.heap.size≤b)∧b<w'.heap.size∧v'.ownBlock≠some b)∧News w' K' W es news F):
  SCalls P g f xs [] (.bs 1000 0 es.length es.length) [.box (es.flatten.map TV.pv)]:=by
 refine⟨hb,fun w E us hG hm hX hl hr=>(h w E us hG hm.lt hl hr).mono ?_⟩;rintro o w' ⟨v',K',news,F,rfl,hown,hbel,hK1,hK2,hn⟩;have hk0:∀b o u,E.K b o→w.cell? ⟨b,o,none⟩=some u→w'.cell? ⟨b,o,none⟩=some u:=fun b o u h1 h2=>(hbel.cell (z72 h2)).trans h2;have hpos:0<es.length:=List.length_pos_iff.2 hne;obtain⟨hlen,hown⟩:=hown;rcases hown with⟨rfl,h0⟩|⟨k,cap,cur,rfl,hk,hcur,hle,hmax,hsz,htake⟩
 ·omega
 have hrow:w'.ownsRow w.heap.size e W (.slice (some ⟨k,0,none⟩) es.length cap) es.length news:=⟨hlen,.inr ⟨k,cap,cur,rfl,hk,hcur,hle,hmax,hsz,htake⟩⟩
 have hcell:∀(j:Nat) u,news[j]?=some u→w'.cell? ⟨k,j,none⟩=some u:=fun j u hj=>by
  grind [List.getElem?_eq_some_iff,World.ownsRow.cellAt]
 have hno:∀d,¬(start w E [] 0).old d:=z61;have hkn:∀o,¬K' k o:=fun o ho=>(hK2 k o ho).2.2 rfl;refine⟨_,{ E with K:=K',β:=fun j=>if j=1000 then k else E.β j },rfl,⟨fun d cs hd=> ?_,fun d e' W' n hd=>(by grind [objR_box]),fun d d' cs cs' h1 h2 _=> ?_,fun d d' cs q k cap _ h2=>(by grind [objR_box]),fun d d' q q' k cap cap' h1=>(by grind [objR_box]),fun b o ho=>(hK2 b o ho).2.1,low_below hbel,fun b o u h1 h2=>⟨hK1 b o h1,hk0 b o u h1 h2⟩,fun b o h1=> ?_,⟨fun d hd=>absurd hd (hno d),fun d hd=>absurd hd (hno d),fun d e W n hd=>absurd hd (hno d)⟩⟩,?_,⟨fun d h1 h2=>absurd h2 (by grind),fun d h1 h2=>absurd h2 (by grind),fun d e W n hd=>by simp[objR]at hd⟩⟩
 ·obtain⟨rfl,rfl⟩:=objB_one hd;refine⟨⟨(gA hcur).1,⟨_,_,_,hcur⟩,fun o=> ?_,fun j c hj=> ?_,hkn⟩,.inl hk⟩
  ·grind [World.ownsRow.frozenAt]
  ·rw[List.getElem?_map]at hj;obtain⟨p,hp,rfl⟩:=gO hj;obtain⟨i,q,cs,h1,h2,rfl⟩:=flat_at (fun cs h=>hn.len cs h) hp;obtain⟨n1,n2,n3⟩:=hn.at_ i q cs p h1 h2;exact⟨_,hcell _ _ n1,n2,.pv n3⟩
 ·grind [objB_one]
 ·rcases(hK2 b o h1).1 with h1|h1
  ·exact .inl h1
  ·exact .inr (.inl h1)
 ·show RelT w' _ _ (.bs 1000 0 es.length es.length) (.slice (some ⟨k,0,none⟩) es.length cap);exact .bs (E:={ E with K:=K',β:=fun j=>if j=1000 then k else E.β j }) 1000 0 es.length es.length cap (Nat.le_refl _) hle hmax
end Go.Sh
end

section
namespace Go.Proofs.YtcpaleaajdilgaaGreatDoor
open Go Go.RowKit Go.Mor Go.Sh
def glN:Sh.Glob where
 G:=fun _=>True
 n:=0
 st:=fun _ _ _ _=>trivial
 le:=fun _ _=>Nat.zero_le _
theorem freshN(l:List V)(hl:l.length≤1000)(hf:∀v∈l,VFew v)(w:World)(K:Nat→Nat→Prop)(hK:∀b o,K b o→b<w.heap.size){c:Value}(hc:RelV w K (.sl 4 (V.rows l)) c):
  Calls Tryz.prog 241 #[c] w fun e w'=>∃v K',e=.returned v∧RelV w' K' (.sl 4 (V.rows l)) v∧Below w.heap.size w w'∧(∀b o u,K b o→w.cell? ⟨b,o,none⟩=some u→K' b o)∧∀b o,K' b o→(K b o∨w.heap.size≤b)∧b<w'.heap.size:=by
 have H:=fresh7_ok glN l hl hf;let E:Env:={ envAll w with K:=K }
 have hX:∀d k,¬objX E [] d k:=by
  rintro d k (⟨cs,h1,_⟩|⟨q,cap,h1,_⟩)
  ·rw[z124]at h1;cases h1
  ·rw[objR_nil]at h1;cases h1
 refine(H.2 w E [c] trivial ?_ (fun d k hd=>absurd hd (hX d k)) rfl ?_).mono ?_
 ·refine⟨fun d cs hd=> ?_,fun d e W n hd=> ?_,fun d d' cs cs' hd=> ?_,fun d d' cs q k cap hd=> ?_,fun d d' q q' k cap cap' hd=> ?_,fun k o hk=>hK k o hk,⟨rfl,rfl,rfl,Nat.le_refl _,fun _ _ _=>rfl⟩,fun k o u hk hu=>⟨hk,hu⟩,fun k o hk=> .inl hk,?_⟩
  ·rw[z124]at hd;cases hd
  ·rw[objR_nil]at hd;cases hd
  ·rw[z124]at hd;cases hd
  ·rw[z124]at hd;cases hd
  ·rw[objR_nil]at hd;cases hd
  ·exact⟨fun d hd=>absurd hd (z61 d),fun d hd=>absurd hd (z61 d),fun d e W n hd=>absurd hd (z61 d)⟩
 ·intro j x v hx hv;cases j with
  |zero=>simp at hx hv;subst hx;subst hv;exact .pv hc
  |succ j=>simp at hx
 ·rintro e w' ⟨v,E',rfl,hM,hr,_⟩;refine⟨v,E'.K,rfl,?_,⟨hM.low.os,hM.low.tape,hM.low.output,hM.low.size,fun k hk=>hM.low.block k hk (fun d hd=>hX d k hd)⟩,fun b o u h1 h2=>(hM.keep b o u h1 h2).1,fun b o h=>⟨?_,hM.lt b o h⟩⟩
  ·cases hr with
   |own _ _ _ _ h _=>exact h
  ·rcases hM.knew b o h with h|h|⟨d,h⟩
   ·exact .inl h
   ·exact .inr h
   ·exact absurd h (hX d b)
theorem blkC{w:World}{b t:Nat}{cs:Array Value}(h:w.heap[b]?=some (.cells cs t (0,0)))(i:Nat):w.cell? ⟨b,i,none⟩=cs[i]?:=by simp[World.cell?,h]
theorem blkF{w:World}{b t:Nat}{cs:Array Value}(h:w.heap[b]?=some (.cells cs t (0,0)))(i:Nat):w.frozen? ⟨b,i,none⟩=false:=by simp[World.frozen?,h]
theorem atStop{p:Prop}(h:id p):p:=h
theorem row_cells{w:World}{K:Nat→Nat→Prop}{b off:Nat}{f:Nat→Nat→Value}{l:List V}(hcs:∀(i j:Nat) cs c,(V.rows l)[i]?=some cs→cs[j]?=some c→(K b (off+i*4+j)∧w.cell? ⟨b,off+i*4+j,none⟩=some (f i j)∧one (f i j))∧RelV w K c (f i j)){k:Nat}{x:V}(hx:l[k]?=some x):
  ∃q n cap,w.cell? ⟨b,off+k*4,none⟩=some (.int .i64 x.k)∧w.cell? ⟨b,off+k*4+1,none⟩=some (.int .i64 x.n)∧w.cell? ⟨b,off+k*4+2,none⟩=some (.string (str x.s))∧w.cell? ⟨b,off+k*4+3,none⟩=some (.slice q n cap)∧RelV w K (.sl 4 (V.rows x.l)) (.slice q n cap):=by
 have hr:(V.rows l)[k]?=some (V.row x):=by rw[z41,List.getElem?_map,hx];rfl
 have e:V.row x=[.v (.int .i64 x.k),.v (.int .i64 x.n),.v (.string (str x.s)),.sl 4 (V.rows x.l)]:=row4 x;obtain⟨⟨_,h0,_⟩,r0⟩:=hcs k 0 _ _ hr (by rw[e];rfl);obtain⟨⟨_,h1,_⟩,r1⟩:=hcs k 1 _ _ hr (by rw[e];rfl);obtain⟨⟨_,h2,_⟩,r2⟩:=hcs k 2 _ _ hr (by rw[e];rfl);obtain⟨⟨_,h3,_⟩,r3⟩:=hcs k 3 _ _ hr (by rw[e];rfl);generalize f k 0=y0 at*;generalize f k 1=y1 at*;generalize f k 2=y2 at*;generalize f k 3=y3 at*;cases r0;cases r1;cases r2;obtain⟨b',off',cap',p',f',rfl,_⟩:=z50 r3;exact⟨_,_,_,h0,h1,h2,h3,r3⟩
theorem freshW(l:List V)(hl:l.length≤1000)(hne:l≠[])(hf:∀v∈l,VFew v)(w:World)(K:Nat→Nat→Prop)(hK:∀b o,K b o→b<w.heap.size){c:Value}(hc:RelV w K (.sl 4 (V.rows l)) c):
  Calls Tryz.prog 241 #[c] w fun o w'=>∃(v':Value) (K':Nat→Nat→Prop) (news:List Value) (F:Nat→Nat→Value),o=.returned v'∧w'.ownsRow w.heap.size 37 4 v' (V.rows l).length news∧Below w.heap.size w w'∧(∀b o,K b o→K' b o)∧
   (∀b o,K' b o→(K b o∨w.heap.size≤b)∧b<w'.heap.size∧v'.ownBlock≠some b)∧News w' K' 4 (V.rows l) news F:=by
 obtain⟨b,off,cap,p,f,rfl,hp,hcap,hmax,hW,hcs⟩:=z50 hc;obtain rfl:=hp (by cases l with|nil=>exact absurd rfl hne|cons x l=>simp[z41]);unfold maxLen at hmax;have hlen:(V.rows l).length=l.length:=by simp[z41]
 rw[hlen]at hcap ⊢;have HC:=Lib.hid (fun k x (hx:l[k]?=some x)=>row_cells hcs hx);have HK:=Lib.hid hK;have HF:=Lib.hid hf;clear hc hcs hp hW hK hf
 go_enter Tryz.func241,Tryz.ntmps241
 go_wp2_with fail
 go_loopw [3,8] (fun m i wr=>∃(k:Nat) (L:List VC) (p:Option Addr) (cap:Nat) (Kr:Nat→Nat→Prop),k≤l.length∧i=.int .i64 k∧m=.slice p L.length cap∧Hid (OwnR VR w.heap.size wr (.slice p L.length cap) L)∧Hid (L.map VC.v=l.take k)∧Hid (∀y∈L,RelV wr Kr (.sl 4 (V.rows y.v.l)) y.c)∧Below w.heap.size w wr∧Hid (∀b o u,K b o→w.cell? ⟨b,o,none⟩=some u→Kr b o)∧Hid (∀b o,Kr b o→(K b o∨w.heap.size≤b)∧b<wr.heap.size∧(Value.slice p L.length cap).ownBlock≠some b)) (fun _ i _=>l.length-(intOf i).toNat)
 case atStart=>exact⟨0,[],none,0,K,Nat.zero_le _,rfl,rfl,OwnR.nil _ _,rfl,(fun y hy=>by cases hy),Below.refl _ _,fun b o u h _=>h,fun b o h=>⟨.inl h,HK.out b o h,by simp[Value.ownBlock]⟩⟩
 case round=>
  obtain⟨k,L,p1,cap1,Kr,hk,rfl,rfl,hO,HL,HY,hb,HKr,HKb⟩:=hrel;have hLk:L.length=k:=by have:=congrArg List.length HL.out;simpa [Nat.min_eq_left hk]using this
  subst hLk;by_cases hlt:L.length<l.length
  ·obtain⟨x,hx⟩:∃x,l[L.length]?=some x:=⟨_,gE hlt⟩
   obtain⟨q,n,cp,h0,h1,h2,h3,hr⟩:=HC.out L.length x hx;have e0:=(hb.cell (z38 h0)).trans h0;have e1:=(hb.cell (z38 h1)).trans h1;have e2:=(hb.cell (z38 h2)).trans h2;have e3:=(hb.cell (z38 h3)).trans h3;have HX:=Lib.hid hx;have HN:Hid (∀W1:World,Below wr.heap.size wr W1→Calls Tryz.prog 241 #[.slice q n cp] W1 fun e w'=>∃v K',e=.returned v∧RelV w' K' (.sl 4 (V.rows x.l)) v∧Below W1.heap.size W1 w'∧(∀b o u,Kr b o→W1.cell? ⟨b,o,none⟩=some u→K' b o)∧∀b o,K' b o→(Kr b o∨W1.heap.size≤b)∧b<w'.heap.size):=fun W1 hB=>by
    have hm:=gM hx;have h4:=HF.out x hm;refine freshN x.l h4.len (fun y hy=>h4.sub hy) W1 Kr (fun b o h=>Nat.lt_of_lt_of_le (HKb.out b o h).2.1 hB.size) (hr.mono fun b o u a1 a2=>⟨HKr.out b o u a1 a2,?_⟩);exact(hB.cell (z38 ((hb.cell (z38 a2)).trans a2))).trans ((hb.cell (z38 a2)).trans a2)
   clear hx h0 h1 h2 h3 hr
   go_wp2_with fail
   have hal:Below wr.heap.size wr (wr.alloc (.cells #[.int .i64 x.k,.int .i64 x.n,.string (str x.s),.slice q n cp] 37)):=(Below.refl _ _).alloc (Nat.le_refl _) _;refine(HN.out _ hal).mono ?_;rintro e w2 ⟨v2,K2,rfl,hr2,hb2,hk2,hk2'⟩;have hlx:(V.rows x.l).length=x.l.length:=by simp[z41]
   obtain⟨b2,off2,cp2,p2,f2,rfl, -⟩:=z50 hr2;rw[hlx]at hr2 ⊢;have N1:=(hb2.block _ (z89 (World.alloc_heap_new wr _))).trans (World.alloc_heap_new wr (.cells #[.int .i64 x.k,.int .i64 x.n,.string (str x.s),.slice q n cp] 37));have hbr:Below wr.heap.size wr w2:=hal.trans (hb2.mono hal.size);have HR2:=Lib.hid hr2;have HK2:=Lib.hid hk2;have HK3:=Lib.hid hk2';have HB2:=Lib.hid hb2;have HAL:=Lib.hid hal;clear hr2 hk2 hk2' hb2 hal HN;obtain⟨N,hN⟩:∃N,wr.heap.size=N:=⟨_,rfl⟩
   rw[hN]at N1 ⊢;have c0:=blkC N1 0;have c1:=blkC N1 1;have c2:=blkC N1 2;have c3:=blkC N1 3;have cf3:=blkF N1 3;simp only[List.getElem?_toArray,List.getElem?_cons_zero,List.getElem?_cons_succ]at c0 c1 c2 c3;obtain⟨Y,hY⟩:∃Y:VC,(⟨x,p2,cp2⟩:VC)=Y:=⟨_,rfl⟩
   have hYv:Y.v=x:=by rw[←hY]
   have hYc:VR.cells Y=[.int .i64 x.k,.int .i64 x.n,.string (str x.s),.slice p2 x.l.length cp2]:=by rw[←hY];rfl
   have hYs:Y.c=.slice p2 x.l.length cp2:=by rw[←hY];rfl
   obtain⟨W4,hW4⟩:∃W,((w2.setCell ⟨N,3,none⟩ (.slice p2 x.l.length cp2)).alloc (.cells #[.int .i64 x.k,.int .i64 x.n,.string (str x.s),.slice p2 x.l.length cp2] 37))=W:=⟨_,rfl⟩
   have hsz2:N<w2.heap.size:=z89 N1;have hst:∀b,b≠N→b<w2.heap.size→W4.heap[b]?=w2.heap[b]?:=fun b hn hb=>by
    rw[←hW4,Below.heap_alloc _ _ _ (by simpa [World.setCell]using hb)];exact heap_setCell_other _ _ _ _ hn
   have hsz4:W4.heap.size=w2.heap.size+1:=by rw[←hW4];simp[World.alloc,World.setCell]
   have hB4:Below wr.heap.size wr W4:=by
    rw[←hW4];exact(hbr.setCell (by show wr.heap.size≤N;omega) _).alloc (by have:=hbr.size;simpa [World.setCell]using this) _
   have hO4:OwnR VR w.heap.size W4 (.slice p1 L.length cap1) L:=hO.out.ext hB4;have hM4:IsR VR (fun _=>True) W4 [Y] (.slice (some ⟨w2.heap.size,0,none⟩) 1 1):=by
    have:=World.alloc_heap_new (w2.setCell ⟨N,3,none⟩ (.slice p2 x.l.length cp2)) (.cells #[.int .i64 x.k,.int .i64 x.n,.string (str x.s),.slice p2 x.l.length cp2] 37);rw[hW4,show(w2.setCell ⟨N,3,none⟩ (.slice p2 x.l.length cp2)).heap.size=w2.heap.size by simp[World.setCell]]at this;exact isR_one Y this hYc.symm
   have hlen4:L.length+[Y].length≤1000000:=by simp;omega
   have hb4:w.heap.size≤W4.heap.size:=Nat.le_trans hb.size hB4.size;have hpos4:0<[Y].length:=by simp
   have HSZ:=Lib.hid hsz4;have HST:=Lib.hid hst;clear N1 hsz4 hst
   go_wp2_with (at_builtin;apply atStop)
   unfold id;try rw[hW4]
   refine wpList_appR1 (R:=VR) rfl _ _ rfl hO4 hM4 hpos4 rfl rfl hlen4 hb4 ?_;intro L3 g3 cap3 w4 hL3 hO3 hg3 hf3
   go_wp2_with fail
   have hown:∀b,(Value.slice p1 L.length cap1).ownBlock=some b→b<N:=fun b hb=>by rw[←hN];exact hO.out.lt b hb
   have hW1:(wr.alloc (.cells #[.int .i64 x.k,.int .i64 x.n,.string (str x.s),.slice q n cp] 37)).heap.size=N+1:=by rw[←hN];exact Array.size_push ..
   have k2:∀b o,K2 b o→b≠N∧b<w2.heap.size∧(Value.slice p1 L.length cap1).ownBlock≠some b∧(K b o∨w.heap.size≤b):=fun b o h=>by
    obtain⟨h1,h2⟩:=HK3.out b o h;rcases h1 with h1|h1
    ·obtain⟨a1,a2,a3⟩:=HKb.out b o h1;exact⟨by omega,h2,a3,a1⟩
    ·rw[hW1]at h1;have:=hb.size;exact⟨by omega,h2,fun e=>by have:=hown b e;omega,.inr (by omega)⟩
   have s2:∀b o u,K2 b o→w2.cell? ⟨b,o,none⟩=some u→w4.cell? ⟨b,o,none⟩=some u:=fun b o u h hu=>by
    obtain⟨a1,a2,a3,_⟩:=k2 b o h;have e1:=hg3.block b (by rw[HSZ.out];omega) (fun e=>a3 e.symm);rw[HST.out b a1 a2]at e1;rw[World.cell?_of_block (w:=w2) e1];exact hu
   have s1:∀b o u,Kr b o→wr.cell? ⟨b,o,none⟩=some u→K2 b o∧w4.cell? ⟨b,o,none⟩=some u:=fun b o u h hu=>by
    have e1:=(HAL.out.cell (z38 hu)).trans hu;have h2:=HK2.out b o u h e1;exact⟨h2,s2 b o u h2 ((HB2.out.cell (z38 e1)).trans e1)⟩
   have hL:=hL3.out;refine⟨⟨L.length+1,L3,some ⟨g3,0,none⟩,cap3,K2,by omega,by simp,rfl,hO3,?_,?_,?_,?_,?_⟩,by simp[intOf];omega⟩
   ·show _=_;rw[hL,List.map_append,HL.out,List.take_add_one,HX.out,List.map_singleton,hYv];rfl
   ·intro y hy;rw[hL]at hy;rcases List.mem_append.1 hy with hy|hy
    ·exact(HY.out y hy).mono s1
    ·obtain rfl:=List.mem_singleton.1 hy;rw[hYs,hYv];exact HR2.out.mono fun b o u h hu=>⟨h,s2 b o u h hu⟩
   ·exact(hb.trans (hB4.mono hb.size)).grown hg3 hb4 (fun k h=>hO.out.below k h)
   ·intro b o u h hu;exact(s1 b o u (HKr.out b o u h hu) ((hb.cell (z38 hu)).trans hu)).1
   ·intro b o h;obtain⟨_,a2,a3,a4⟩:=k2 b o h;refine⟨a4,?_,fun e=> ?_⟩
    ·have:=hg3.size;rw[HSZ.out]at this;omega
    ·have e:g3=b:=by simpa [Value.ownBlock]using e
     rcases hf3.out with h1|h1
     ·exact a3 (by rw[h1,e])
     ·rw[HSZ.out]at h1;omega
  ·have hk2:L.length=l.length:=by omega
   clear hk
   go_wp2_with fail
   refine bodyPost_ret (v:=.slice p1 L.length cap1) (by simp[results,Tryz.results241,go_sem]) rfl ?_;have hLl:L.map VC.v=l:=by rw[HL.out,hk2,List.take_length]
   refine⟨_,fun b o=>K b o∨Kr b o,L.flatMap cellsV,fun i j=>(((L[i]?).map cellsV).bind (·[j]?)).getD undef,rfl,?_,hb,fun b o h=> .inl h,?_,?_⟩
   ·rw[←hk2];exact hO.out
   ·rintro b o (h|h)
    ·have h1:=HK.out b o h;exact⟨.inl h,Nat.lt_of_lt_of_le h1 hb.size,fun e=>by have:=hO.out.below b e;omega⟩
    ·exact HKb.out b o h
   ·refine⟨fun cs hc=> ?_,fun i j cs c h1 h2=> ?_⟩
    ·rw[z41]at hc;obtain⟨x,_,rfl⟩:=List.mem_map.1 hc;rw[row4];rfl
    ·rw[z41,←hLl,List.map_map,List.getElem?_map]at h1;obtain⟨y,hy,rfl⟩:=gO h1;have e:(V.row∘VC.v) y=[.v (.int .i64 y.v.k),.v (.int .i64 y.v.n),.v (.string (str y.v.s)),.sl 4 (V.rows y.v.l)]:=row4 y.v;rw[e]at h2;have hj:j<4:=(gJ h2).1;have hg:=flatR_get (R:=VR) L i y hy j hj;have hr:=(HY.out y (gM hy)).mono (K':=fun b o=>K b o∨Kr b o) (fun b o u a1 a2=>⟨.inr a1,a2⟩);have hF:((((L[i]?).map cellsV).bind (·[j]?)).getD undef)=(cellsV y)[j]?.getD undef:=by rw[hy];rfl
     rw[hF];have:j=0∨j=1∨j=2∨j=3:=by omega
     rcases this with rfl|rfl|rfl|rfl
     ·cases h2;exact⟨hg,rfl,.v _⟩
     ·cases h2;exact⟨hg,rfl,.v _⟩
     ·cases h2;exact⟨hg,rfl,.v _⟩
     ·cases h2;exact⟨hg,rfl,hr⟩
theorem freshB_ok(g:Sh.Glob)(l:List V)(hl:l.length≤1000)(hne:l≠[])(hf:∀v∈l,VFew v):FreshB g l:=by
 have hr:(V.rows l).length=l.length:=by simp[z41]
 have:=boxed_of (P:=Tryz.prog) (g:=g) (f:=241) (xs:=[.pv (.sl 4 (V.rows l))]) (e:=37) (W:=4) (es:=V.rows l) (by decide) (fun e=>hne (List.eq_nil_of_length_eq_zero (by rw[←hr,e];rfl))) (fresh7_ok g l hl hf).1 (fun w E us hG hK hlen hrel=>by
  cases us with
  |nil=>simp at hlen
  |cons c us=>
   cases us with
   |cons _ _=>simp at hlen
   |nil=>
    have:=hrel 0 _ c rfl rfl;cases this with
    |pv h=>exact freshW l hl hne hf w E.K hK h)
 rw[hr]at this;exact this
section
open Go.Sh.Cd1 Go.Sh.Cd5
theorem refArity_ok(g:Sh.Glob)(s:zB):zC g 298 [S (str s)] [] (I (takesV s)) []:=by
 refine z10 tf_127 ?_;have q1:=bS [108,101,110];have q2:=bS [116,101,120,116];have q3:=bS [110,117,109];have q4:=bS [108,101,102,116];have q5:=bS [114,105,103,104,116];have q6:=bS [102,114,111,109];have q7:=bS [102,105,110,100];have q8:=bS [109,105,110];have q9:=bS [109,97,120];have q10:=bS [105,102];have hb:∀t:zB,(s==t)=decide (s=t):=fun t=>by rw[Bool.eq_iff_iff];simp
 unfold takesV;simp only[vW,seval,q1,q2,q3,q4,q5,q6,q7,q8,q9,q10,hb]
 repeat' (first|(apply And.intro)|(intro _))
 all_goals simp_all
theorem refBinds_ok(g:Sh.Glob)(s:zB):zC g 266 [S (str s)] [] (I (bindsV s)) []:=by
 refine z10 tf_128 ?_;have q1:=bS [42];have q2:=bS [47];have q3:=bS [37];have q4:=bS [43];have q5:=bS [45];have q6:=bS [38];have q7:=bS [61];have q8:=bS [60,62];have q9:=bS [60];have q10:=bS [60,61];have q11:=bS [62];have q12:=bS [62,61];have hb:∀t:zB,(s==t)=decide (s=t):=fun t=>by rw[Bool.eq_iff_iff];simp
 unfold bindsV;simp only[vW,seval,q1,q2,q3,q4,q5,q6,q7,q8,q9,q10,q11,q12,hb]
 repeat' (first|(apply And.intro)|(intro _))
 all_goals simp_all
end
end Go.Proofs.YtcpaleaajdilgaaGreatDoor
end

section
namespace Go.Sh.Cd2
open Go Go.Sh
abbrev gQ(a:GA):Prop:=gT Go.Proofs.Tryz.prog a
theorem gK{a:GA}(h:gQ a:=by unfold gQ gT;kernel_rfl):gQ a:=h
theorem tf_118:gQ ⟨176,138,[],[],[[0,2],[6],[9],[1,7008,10023],[8,25],[1,7,24,26044],[24,46],[7,45,47049],[1,3,50067],[45,69],[70],[1,7,68,71099],[7,68,101],[100,102114],[1,115],[2,115],[116119],[2,121122,137],[120,123128],[1,4,129],[2,129135],[5,136],[1,4,137],[1,4],[1,100]],[.tmp 2],false⟩:=gK
noncomputable def funcs:Nat→Option SFunc
 |_=>none
end Go.Sh.Cd2
end

section
namespace Go.Proofs.YtcpaleaajdilgaaGreatDoor
open Go Go.RowKit Go.Mor Go.Sh Go.Sh.Cd1
section
open Go.Sh.Cd2
theorem rightText_doc(s:zB):z18 s=(isText s&&decide (s.length≤60)):=by
 unfold z18;rw[isText_eq s.length s (Nat.le_refl _),Bool.and_comm]
theorem rightID_doc(n:Int):z110 n=(decide (1≤n)&&decide (n≤100000)||decide (-20≤n)&&decide (n≤ -1)):=by
 unfold z110;rw[Bool.eq_iff_iff];simp
theorem refRight1_ok(g:Sh.Glob)(x:V)(hs:z88 x)(h5:x.k≠5):zC g 176 [tv x] [] (B (right1 x)) []:=by
 obtain⟨k,n,s,l⟩:=x;have HT:=isText_ok g s hs;have hln:decide ((l.length:Int)=0)=(l.length==0):=by rw[Bool.eq_iff_iff];simp
 have k5:¬k=5:=h5;have hl60:decide ((s.length:Int)≤60)=decide (s.length≤60):=by rw[Bool.eq_iff_iff];simp;omega
 have hb:bare (.mk k n s l)=(s==[]&&l.length==0):=rfl;have hn0:(n==0)=decide (n=0):=by rw[Bool.eq_iff_iff];simp
 rw[right1_mk,hb,rightText_doc,rightID_doc,hn0];clear h5 hs hb;have key:∀(kk:Int),kk=3∨kk=4→zC g 176 [tv (.mk kk n s l)] [] (.pv (.v (.bool ((s==[]&&l.length==0)&&(decide (1≤n)&&decide (n≤100000)||decide (-20≤n)&&decide (n≤ -1)))))) []:=by
  intro kk hkk;refine z10 tf_118 ?_;rcases hkk with rfl|rfl
  all_goals
   by_cases hid:(1≤n∧n≤100000)∨(-20≤n∧n≤ -1)
   ·have e:(decide (1≤n)&&decide (n≤100000)||decide (-20≤n)&&decide (n≤ -1))=true:=by simpa using hid
    rw[e];rcases hid with⟨q1,q2⟩|⟨q3,q4⟩
    ·cases hs:s==[]<;>simp only[vW,seval,e0,q1,q2,hs,hln]
    ·have q1:¬1≤n:=by omega
     cases hs:s==[]<;>simp only[vW,seval,e0,q1,q3,q4,hs,hln]
   ·have e:(decide (1≤n)&&decide (n≤100000)||decide (-20≤n)&&decide (n≤ -1))=false:=by rw[←Bool.not_eq_true];simpa using hid
    rw[e];by_cases q1:1≤n
    ·have q2:¬n≤100000:=by omega
     have q3: -20≤n:=by omega
     have q4:¬n≤ -1:=by omega
     simp only[vW,seval,q1,q2,q3,q4]
    ·by_cases q3: -20≤n
     ·have q4:¬n≤ -1:=by omega
      simp only[vW,seval,q1,q3,q4]
     ·simp only[vW,seval,q1,q3]
 by_cases k34:k=3∨k=4
 ·rw[if_neg (by omega),if_neg (by omega),if_neg (by omega),if_pos k34];exact key k k34
 clear key;refine z10 tf_118 ?_;unfold B at*;by_cases k0:k=0
 ·subst k0;by_cases n0:n=0
  ·subst n0;cases hs:s==[]<;>simp only[vW,seval,e0,hs,hln]
  ·simp only[vW,seval,n0]
 rw[if_neg k0];by_cases k1:k=1
 ·subst k1;by_cases q1: -1000000000000000≤n
  ·by_cases q2:n≤1000000000000000
   ·cases hs:s==[]<;>simp only[vW,seval,e0,q1,q2,hs,hln]
   ·simp only[vW,seval,q1,q2]
  ·simp only[vW,seval,q1]
 rw[if_neg k1];by_cases k2:k=2
 ·subst k2;simp only[vW,seval];refine z7 HT ?_;by_cases n0:n=0
  ·subst n0;cases isText s
   ·simp only[vW,seval]
   ·by_cases q:(s.length:Int)≤60
    ·have q':s.length≤60:=by omega
     simp only[vW,seval,q,q',hln]
    ·have q':¬s.length≤60:=by omega
     simp only[vW,seval,q,q']
  ·simp only[vW,seval,n0]
 rw[if_neg k2];rw[if_neg k34];have k3:¬k=3:=fun h=>k34 (.inl h);have k4:¬k=4:=fun h=>k34 (.inr h);simp only[vW,seval,k0,k1,k2,k3,k4,k5]
end
section
open Go.Sh.Cd5
theorem refName_ok(g:Sh.Glob)(l:zB)(hl:l.length<4611686018427387904):zC g 170 [S (str l)] [] (B (z11 l)) []:=by
 refine z10 tf_122 ?_;unfold B;by_cases h1:1≤l.length
 ·have d1:¬(l.length:Int)<1:=by omega
  by_cases h20:l.length≤20
  ·have d2:¬(20:Int)<(l.length:Int):=by omega
   have hR:z11 l=(small (l.headD 0)&&l.all nameB):=by unfold z11;rw[decide_eq_true ⟨h1,h20⟩];simp
   rw[hR];obtain⟨r,hr⟩:∃r,(small (l.headD 0)&&l.all nameB)=r:=⟨_,rfl⟩
   rw[hr];simp only[vW,seval,d1,d2];refine v_loop (σ:={ k:Nat // k≤l.length∧(0<k→small (l.headD 0)=true)∧(l.drop k).all nameB=l.all nameB })
    (fun k=>⟨[(0,S (str l)),(3,I (k.1:Int))],[],[],[]⟩) (fun k=>l.length-k.1) ⟨0,Nat.zero_le _,by omega,rfl⟩ ?_ ?_
   ·exact lwA
   rintro⟨k,hk,hh,hd⟩;by_cases hlt:k<l.length
   ·have d3:(k:Int)<(l.length:Int):=by omega
    obtain⟨b,eb⟩:∃b,l[k]?=some b:=⟨_,gE hlt⟩
    rw[z83 eb,List.all_cons]at hd;have hbn:=b.toNat_lt;have w4:=wS k;have h0:k=0→l.headD 0=b:=by
     rintro rfl;cases l with
     |nil=>simp at eb
     |cons x r=>simpa using eb
    have cls:(b.toNat<48)∨(48≤b.toNat∧b.toNat≤57)∨(57<b.toNat∧b.toNat<97∧b.toNat≠95)∨b.toNat=95∨(97≤b.toNat∧b.toNat≤122)∨122<b.toNat:=by omega
    rcases cls with q|q|q|q|q|q
    ·have t1:¬(97:Int)≤(b.toNat:Int):=by omega
     have t3:¬(48:Int)≤(b.toNat:Int):=by omega
     have t5:¬(b.toNat:Int)=95:=by omega
     have hn:nameB b=false:=by unfold nameB small;simp;omega
     rw[hn,Bool.false_and]at hd;have hf:r=false:=by rw[←hr,←hd,Bool.and_false]
     subst hf;by_cases k0:(k:Int)=0
     ·have k00:k=0:=by omega
      have d30:(0:Int)<(l.length:Int):=by omega
      have e00:l[0]?=some b:=by rw[←k00];exact eb
      simp only[vW,seval,d3,eb,t1,t3,t5,k0,d30,e00]
     ·simp only[vW,seval,d3,eb,t1,t3,t5,k0]
    ·have t1:¬(97:Int)≤(b.toNat:Int):=by omega
     have t3:(48:Int)≤(b.toNat:Int):=by omega
     have t4:(b.toNat:Int)≤57:=by omega
     have hn:nameB b=true:=by unfold nameB;simp;omega
     have hs:small b=false:=by unfold small;simp;omega
     rw[hn,Bool.true_and]at hd;by_cases k0:(k:Int)=0
     ·have k00:k=0:=by omega
      have d30:(0:Int)<(l.length:Int):=by omega
      have e00:l[0]?=some b:=by rw[←k00];exact eb
      have hf:r=false:=by rw[←hr,h0 (by omega),hs];rfl
      subst hf;simp only[vW,seval,d3,eb,t1,t3,t4,k0,d30,e00]
     ·simp only[vW,seval,d3,eb,t1,t3,t4,k0,w4];refine z13 ⟨k+1,hlt,fun _=>hh (by omega),hd⟩ (by show l.length-(k+1)<l.length-k;omega) ?_;exact lwA
    ·have t1:¬(97:Int)≤(b.toNat:Int):=by omega
     have t3:(48:Int)≤(b.toNat:Int):=by omega
     have t4:¬(b.toNat:Int)≤57:=by omega
     have t5:¬(b.toNat:Int)=95:=by omega
     have hn:nameB b=false:=by unfold nameB small;simp;omega
     rw[hn,Bool.false_and]at hd;have hf:r=false:=by rw[←hr,←hd,Bool.and_false]
     subst hf;by_cases k0:(k:Int)=0
     ·have k00:k=0:=by omega
      have d30:(0:Int)<(l.length:Int):=by omega
      have e00:l[0]?=some b:=by rw[←k00];exact eb
      simp only[vW,seval,d3,eb,t1,t3,t4,t5,k0,d30,e00]
     ·simp only[vW,seval,d3,eb,t1,t3,t4,t5,k0]
    ·have t1:¬(97:Int)≤(b.toNat:Int):=by omega
     have t3:(48:Int)≤(b.toNat:Int):=by omega
     have t4:¬(b.toNat:Int)≤57:=by omega
     have t5:(b.toNat:Int)=95:=by omega
     have hn:nameB b=true:=by unfold nameB;simp[q]
     have hs:small b=false:=by unfold small;simp;omega
     rw[hn,Bool.true_and]at hd;by_cases k0:(k:Int)=0
     ·have k00:k=0:=by omega
      have d30:(0:Int)<(l.length:Int):=by omega
      have e00:l[0]?=some b:=by rw[←k00];exact eb
      have hf:r=false:=by rw[←hr,h0 (by omega),hs];rfl
      subst hf;simp only[vW,seval,d3,eb,t1,t3,t4,t5,k0,d30,e00]
     ·simp only[vW,seval,d3,eb,t1,t3,t4,t5,k0,w4];refine z13 ⟨k+1,hlt,fun _=>hh (by omega),hd⟩ (by show l.length-(k+1)<l.length-k;omega) ?_;exact lwA
    ·have t1:(97:Int)≤(b.toNat:Int):=by omega
     have t2:(b.toNat:Int)≤122:=by omega
     have t3:(48:Int)≤(b.toNat:Int):=by omega
     have t4:¬(b.toNat:Int)≤57:=by omega
     have t5:¬(b.toNat:Int)=95:=by omega
     have hs:small b=true:=by unfold small;simp;omega
     have hn:nameB b=true:=by unfold nameB;rw[hs];rfl
     rw[hn,Bool.true_and]at hd;simp only[vW,seval,d3,eb,t1,t2,t3,t4,t5,w4];refine z13 ⟨k+1,hlt,fun _=> ?_,hd⟩ (by show l.length-(k+1)<l.length-k;omega) ?_
     ·by_cases k0:k=0
      ·rw[h0 k0];exact hs
      ·exact hh (by omega)
     exact lwA
    ·have t1:(97:Int)≤(b.toNat:Int):=by omega
     have t2:¬(b.toNat:Int)≤122:=by omega
     have t3:(48:Int)≤(b.toNat:Int):=by omega
     have t4:¬(b.toNat:Int)≤57:=by omega
     have t5:¬(b.toNat:Int)=95:=by omega
     have hn:nameB b=false:=by unfold nameB small;simp;omega
     rw[hn,Bool.false_and]at hd;have hf:r=false:=by rw[←hr,←hd,Bool.and_false]
     subst hf;by_cases k0:(k:Int)=0
     ·have k00:k=0:=by omega
      have d30:(0:Int)<(l.length:Int):=by omega
      have e00:l[0]?=some b:=by rw[←k00];exact eb
      simp only[vW,seval,d3,eb,t1,t2,t3,t4,t5,k0,d30,e00]
     ·simp only[vW,seval,d3,eb,t1,t2,t3,t4,t5,k0]
   ·have d3:¬(k:Int)<(l.length:Int):=by omega
    rw[List.drop_eq_nil_of_le (by omega)]at hd;have hf:r=true:=by rw[←hr,←hd,hh (by omega)];rfl
    subst hf;simp only[vW,seval,d3]
  ·have d2:(20:Int)<(l.length:Int):=by omega
   have hR:z11 l=false:=by unfold z11;rw[decide_eq_false (by omega)];rfl
   rw[hR];simp only[vW,seval,d1,d2]
 ·have d1:(l.length:Int)<1:=by omega
  have hR:z11 l=false:=by unfold z11;rw[decide_eq_false (by omega)];rfl
  rw[hR];simp only[vW,seval,d1]
theorem refTextR_ok(g:Sh.Glob)(l:zB)(hl:l.length<4611686018427387904):zC g 176 [nv (.mk 2 0 l [])] [] (B (z18 l)) []:=by
 have HR:=refRight1_ok g (.mk 2 0 l []) (by unfold z88 V.s;simp only;omega) (by simp[V.k]);have hk:right1 (.mk 2 0 l [])=z18 l:=by unfold right1;simp[V.k,V.n,V.l,V.s]
 rw[hk]at HR;exact HR.inp (xs:=[nv (.mk 2 0 l [])]) rfl (fun j c d hc hd=>by
  match j with
  |0=>simp at hc hd;subst hc;subst hd;exact nv_tv rfl
  |j+1=>simp at hc)
theorem refNode_ok(g:Sh.Glob)(e:V)(he:ESmall e):zC g 301 [tv e] [] (B (nodeE e)) []:=by
 refine z10 tf_133 ?_;have HT:=refTextR_ok g e.s he.txt;have HN:=refName_ok g e.s he.txt;have HB:=refBinds_ok g e.s;have HK:=refArity_ok g e.s;have e0:=bS [];have hlen0:decide ((e.l.length:Int)=0)=(e.l.length==0):=by rw[Bool.eq_iff_iff];simp
 have hlen1:decide ((e.l.length:Int)=1)=(e.l.length==1):=by rw[Bool.eq_iff_iff];simp;omega
 have hlen2:decide ((e.l.length:Int)=2)=(e.l.length==2):=by rw[Bool.eq_iff_iff];simp;omega
 have e45:=bS [45];unfold nv at HT;unfold B at*;unfold nodeE;by_cases k1:e.k=1
 ·rw[if_neg (by simp[k1]),if_pos k1];simp only[vW,seval,bmV,k1,e0,beqL]
  repeat' (first|(apply And.intro)|(intro _))
  all_goals(first|(simp_all;done)|(simp only[Option.some.injEq,Prod.mk.injEq,TV.pv.injEq,PV.v.injEq,Value.bool.injEq];rw[Bool.eq_iff_iff];simp_all<;>omega))
 by_cases n0:e.n=0
 ·rw[if_neg (by simp[n0]),if_neg k1];by_cases k2:e.k=2
  ·rw[if_pos k2];simp only[vW,seval,bmV,k2,n0];refine z7 HT ?_;cases z18 e.s
   ·simp only[vW,seval,bmV]
   ·simp only[vW,seval,bmV,hlen0,Bool.true_and]
  rw[if_neg k2];by_cases k3:e.k=3
  ·rw[if_pos k3];simp only[vW,seval,bmV,k3,n0];refine z7 HN ?_;cases z11 e.s
   ·simp only[vW,seval,bmV]
   ·simp only[vW,seval,bmV,hlen0,Bool.true_and]
  rw[if_neg k3];by_cases k4:e.k=4
  ·rw[if_pos k4];simp only[vW,seval,bmV,k4,n0];refine z7 HB ?_;simp only[vW,seval,bmV];refine⟨fun h=> ?_,fun h=> ?_⟩
   ·rw[decide_eq_true h,hlen2,Bool.true_and]
   ·rw[decide_eq_false h,Bool.false_and]
  rw[if_neg k4];by_cases k5:e.k=5
  ·rw[if_pos k5];simp only[vW,seval,bmV,k5,n0,e45];cases e.s==[45]
   ·simp only[vW,seval,bmV]
   ·simp only[vW,seval,bmV,hlen1,Bool.true_and]
  rw[if_neg k5];by_cases k6:e.k=6
  ·rw[if_pos k6];simp only[vW,seval,bmV,k6,n0];refine z7 HK ?_;simp only[vW,seval,bmV];refine⟨fun h=> ?_,fun h=> ?_⟩
   ·refine z7 HK ?_;simp only[vW,seval,bmV,h]
   ·rw[decide_eq_false h,Bool.false_and]
  ·rw[if_neg k6];simp only[vW,seval,bmV,k1,k2,k3,k4,k5,k6,n0]
 ·rw[if_pos ⟨k1,n0⟩];by_cases k2:e.k=2
  ·simp only[vW,seval,bmV,k2,n0]
  by_cases k3:e.k=3
  ·simp only[vW,seval,bmV,k3,n0]
  by_cases k4:e.k=4
  ·simp only[vW,seval,bmV,k4,n0]
  by_cases k5:e.k=5
  ·simp only[vW,seval,bmV,k5,n0]
  by_cases k6:e.k=6
  ·simp only[vW,seval,bmV,k6,n0]
  simp only[vW,seval,bmV,k1,k2,k3,k4,k5,k6]
end
section
open Go.Sh.Cd7
theorem b_ne(b c:UInt8)(h:b≠c):¬(b.toNat:Int)=(c.toNat:Int):=fun e=>h (UInt8.toNat_inj.1 (by omega))
theorem refDigit5_ok(g:Sh.Glob)(b:UInt8):zC g 263 [.pv (.v (.int .u8 (b.toNat:Int)))] [] (B (digB b)) []:=by
 refine z10 tf_131 ?_;have hb:digB b=(decide (48≤(b.toNat:Int))&&decide ((b.toNat:Int)≤57)):=by unfold digB;rw[Bool.eq_iff_iff];simp;omega
 rw[hb];unfold B;by_cases h1:48≤(b.toNat:Int)
 ·simp only[vW,seval,h1]
 ·simp only[vW,seval,h1]
theorem refWord5_ok(g:Sh.Glob)(b:UInt8):zC g 265 [.pv (.v (.int .u8 (b.toNat:Int)))] [] (B (nameB b)) []:=by
 refine z10 tf_136 ?_;have h1:decide (97≤(b.toNat:Int))=decide (97≤b.toNat):=by rw[Bool.eq_iff_iff];simp;omega
 have h2:decide ((b.toNat:Int)≤122)=decide (b.toNat≤122):=by rw[Bool.eq_iff_iff];simp;omega
 have h3:decide (48≤(b.toNat:Int))=decide (48≤b.toNat):=by rw[Bool.eq_iff_iff];simp;omega
 have h4:decide ((b.toNat:Int)≤57)=decide (b.toNat≤57):=by rw[Bool.eq_iff_iff];simp;omega
 have h5:decide ((b.toNat:Int)=95)=(b.toNat==95):=by rw[Bool.eq_iff_iff];simp;omega
 unfold B nameB small;rw[Bool.decide_and,Bool.decide_and];simp only[vW,seval]
 repeat' (first|(apply And.intro)|(intro _))
 all_goals(first|(simp_all;done)|(simp_all;omega)|(simp_all<;>omega))
def txtT5(a:Nat)(r:Option (zB×Nat)):TV:=match r with|some (t,k)=> .tuple [S (str t),I ((a+k:Nat):Int)]|none=> .tuple [S (str []),I 0]
theorem refText5_ok(g:Sh.Glob)(s:zB)(a:Nat)(ha:a<s.length)(hs:s.length≤1000):zC g 264 [S (str s),I (a:Int)] [] (txtT5 a (quoG (s.drop (a+1)) [] 1)) []:=by
 obtain⟨R,hR⟩:∃R,quoG (s.drop (a+1)) [] 1=R:=⟨_,rfl⟩
 rw[hR];have e0:=bS [];have w0:=wS a;refine z10 tf_135 ?_;simp only[vW,seval,e0,w0];refine v_loop (σ:={x:Nat×zB // a<x.1∧x.1≤s.length∧quoG (s.drop x.1) x.2 (x.1-a)=R∧x.2.length≤x.1}) (fun x=>⟨[(0,S (str s)),(6,S (str x.1.2)),(7,I (x.1.1:Int))],[],[],[]⟩) (fun x=>s.length-x.1.1) ⟨(a+1,[]),by dsimp only;omega,by dsimp only;omega,by dsimp only;rw[show a+1-a=1 by omega];exact hR,by simp⟩ ?_ ?_
 ·apply lw_of<;>simp[leL,lk,sv,Nat.beq,I,S,ES.kill,has,drp,nilT,e0]
 rintro⟨⟨i,t⟩,h1,h2,h3,h4⟩
 dsimp only at h1 h2 h3 h4
 by_cases hlt:i<s.length
 ·have d1:(i:Int)<(s.length:Int):=by omega
  obtain⟨b,eb⟩:∃b,s[i]?=some b:=⟨_,gE hlt⟩
  have hd:s.drop i=b::s.drop (i+1):=by rw[List.drop_eq_getElem_cons hlt];congr 1;rw[gE hlt]at eb;exact Option.some.inj eb
  have w1:=wS i;rw[hd,quoG.eq_def]at h3
  dsimp only at h3
  have hbl:=b.toNat_lt;by_cases hq:b=34
  ·subst hq;rw[if_pos rfl]at h3;have HR:=refTextR_ok g t (by omega);unfold nv B at HR;simp only[vW,seval,d1,eb,w1,e0];refine z7 HR ?_;cases hr:z18 t
   ·rw[hr]at h3;simp only[Bool.false_eq_true,if_false]at h3;subst h3;unfold txtT5;simp only[vW,seval,e0]
   ·rw[hr]at h3;simp only[if_true]at h3;subst h3;unfold txtT5;simp only[vW,seval,w1];rw[show a+(i-a+1)=i+1 by omega]
  rw[if_neg hq]at h3;have t34:¬(b.toNat:Int)=34:=b_ne b 34 hq;by_cases hq2:b=92
  ·subst hq2;rw[if_pos rfl]at h3;have t92:(92:UInt8).toNat=92:=rfl;by_cases hlt2:i+1<s.length
   ·have d2:¬(s.length:Int)≤((i+1:Nat):Int):=by omega
    obtain⟨c,ec⟩:∃c,s[i+1]?=some c:=⟨_,gE hlt2⟩
    have hd2:s.drop (i+1)=c::s.drop (i+1+1):=by rw[List.drop_eq_getElem_cons hlt2];congr 1;rw[gE hlt2]at ec;exact Option.some.inj ec
    rw[hd2]at h3
    dsimp only at h3
    have w2:IntKind.i64.wrap (((i+1:Nat):Int)+1)=((i+1+1:Nat):Int):=wG;have htk:List.take 1 (List.drop (i+1) s)=[c]:=by rw[hd2];rfl
    have go:∀(hc:c=34∨c=92),quoG (s.drop (i+1+1)) (t++[c]) (i+1+1-a)=R:=fun hc=>by
     rw[if_pos hc]at h3;rw[show i+1+1-a=i-a+2 by omega];exact h3
    by_cases c34:c=34
    ·subst c34;simp only[vW,seval,d1,eb,w1,d2,ec,w2];refine⟨⟨by omega,by omega⟩,by rw[List.length_take];omega,z13 ⟨(i+1+1,t++[34]),by dsimp only;omega,by dsimp only;omega,go (.inl rfl),by simp;omega⟩ (by show s.length-(i+1+1)<s.length-i;omega) ?_⟩;apply lw_of<;>simp[leL,lk,sv,Nat.beq,I,S,ES.kill,has,drp,nilT,htk]
    have n34:¬(c.toNat:Int)=34:=b_ne c 34 c34;by_cases c92:c=92
    ·subst c92;simp only[vW,seval,d1,eb,w1,d2,ec,w2,n34];refine⟨⟨by omega,by omega⟩,by rw[List.length_take];omega,z13 ⟨(i+1+1,t++[92]),by dsimp only;omega,by dsimp only;omega,go (.inr rfl),by simp;omega⟩ (by show s.length-(i+1+1)<s.length-i;omega) ?_⟩;apply lw_of<;>simp[leL,lk,sv,Nat.beq,I,S,ES.kill,has,drp,nilT,htk]
    have n92:¬(c.toNat:Int)=92:=b_ne c 92 c92;rw[if_neg (by simp[c34,c92])]at h3;subst h3;unfold txtT5;simp only[vW,seval,d1,eb,w1,d2,ec,w2,n34,n92,e0]
   ·have d2:(s.length:Int)≤((i+1:Nat):Int):=by omega
    rw[List.drop_eq_nil_of_le (by omega)]at h3
    dsimp only at h3
    subst h3;unfold txtT5;simp only[vW,seval,d1,eb,w1,d2,e0]
  rw[if_neg hq2]at h3;have t92:¬(b.toNat:Int)=92:=b_ne b 92 hq2;have htk:List.take 1 (List.drop i s)=[b]:=by rw[hd];rfl
  simp only[vW,seval,d1,eb,w1,t34,t92];refine⟨⟨by omega,by omega⟩,by rw[List.length_take];omega,z13 ⟨(i+1,t++[b]),by dsimp only;omega,by dsimp only;omega,by dsimp only;rw[show i+1-a=i-a+1 by omega];exact h3,by simp;omega⟩ (by show s.length-(i+1)<s.length-i;omega) ?_⟩;apply lw_of<;>simp[leL,lk,sv,Nat.beq,I,S,ES.kill,has,drp,nilT,htk]
 have d1:¬(i:Int)<(s.length:Int):=by omega
 rw[List.drop_eq_nil_of_le (by omega),quoG.eq_def]at h3
 dsimp only at h3
 subst h3;unfold txtT5;simp only[vW,seval,d1,e0]
end
end Go.Proofs.YtcpaleaajdilgaaGreatDoor
end
