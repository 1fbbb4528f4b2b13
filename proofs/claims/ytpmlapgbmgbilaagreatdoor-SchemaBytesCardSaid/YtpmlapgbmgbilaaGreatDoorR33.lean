/- Merged texts: Pr1 PrA PrX Zy4 PRead Zn2 Zn0 Zn3 Zn4 Zu2. No statement of the program is proved here. -/
import Derived.Test.YtpmlapgbmgbilaaGreatDoorR32
set_option linter.unusedSimpArgs false
set_option linter.unusedVariables false
set_option maxRecDepth 100000
set_option maxHeartbeats 8000000
section
namespace Go.Proofs.YtpmlapgbmgbilaaGreatDoor
open Go Go.RowKit Go.Mor Go.Sh
structure GlobN(a0 a1:Addr)(n:Nat)(w:World):Prop where
 g:GlobW w a0 a1
 sz:n≤w.heap.size
 h0:a0.block<n
 h1:a1.block<n
 hv:10≤n
def gl(a0 a1:Addr)(n:Nat):Sh.Glob where
 G:=GlobN a0 a1 n
 n:=n
 st:=fun w w' h hk=>by
  have hv:=h.hv;refine⟨⟨zaN h.hv h.g.toGlobU hk,?_,?_,h.g.ne,?_,?_⟩,zcX h.sz hk,h.h0,h.h1,h.hv⟩
  ·rw[World.cell?_of_block (w:=w) (hk _ (show 1<n by omega))];exact h.g.e0
  ·rw[World.cell?_of_block (w:=w) (hk _ (show 0<n by omega))];exact h.g.e1
  ·rw[hk _ h.h0];exact h.g.b0
  ·rw[hk _ h.h1];exact h.g.b1
 le:=fun w h=>h.sz
theorem zt8{a0 a1:Addr}{m f:Nat}{xs:List TV}{os:List MO}{y:TV}{os':List MO}(h:zC (gl0 m) f xs os y os'):zC (gl a0 a1 m) f xs os y os':=
 za3 (g:=gl0 m) (g':=gl a0 a1 m) rfl (fun w (hG:GlobN a0 a1 m w)=>(⟨hG.g.toGlobU,hG.sz,hG.hv⟩:GlobN0 m w)) h
def z9Q(r:Option (Int×Int)):TV:=match r with|some (n,b)=> .tuple [I n,I b,I 0]|none=> .tuple [I 0,I 0,I 10]
def z7i(r:Option (zB×Int)):TV:=match r with|some (t,b)=> .tuple [S (str t),I b,I 0]|none=> .tuple [S (str []),I 0,I 10]
def zgn(s:zB):TV:=if s.length≤10000 then .tuple [S (str (text s)),I 0] else .tuple [S (str []),I 10]
def z9T:z0m:=fun f xs os=>
 if Nat.beq f 41 then match xs,os with
  |[.pv (.v (.int .i64 x))],[]=>if zaR x then some (S (str (num x)),[])else none
  |_,_=>none
 else if Nat.beq f 73 then match xs,os with
  |[.pv (.v (.string s)),.pv (.v (.int .i64 a))],[]=>if zaR a&&decide ((bl s).length<1125899906842624)then some (z9Q (z06 (bl s) a),[])else none
  |_,_=>none
 else if Nat.beq f 70 then match xs,os with
  |[.pv (.v (.string s))],[]=>if decide ((bl s).length≤9223372036854775807)then some (zgn (bl s),[])else none
  |_,_=>none
 else if Nat.beq f 72 then match xs,os with
  |[.pv (.v (.string s)),.pv (.v (.int .i64 a))],[]=>if zaR a&&decide ((bl s).length<1125899906842624)then some (z7i (zU (bl s) a),[])else none
  |_,_=>none
 else zeu f xs os
theorem z5i(a0 a1:Addr)(n:Nat):z3O Tryz.prog (gl a0 a1 n) z9T:=by
 intro f xs os y os' h;unfold z9T at h;split at h
 ·rename_i hf;obtain rfl:=Nat.eq_of_beq_eq_true hf;split at h<;>try(cases h;done)
  rename_i x;split at h<;>try(cases h;done)
  rename_i hx;cases h;obtain⟨h1,h2⟩:=z8H hx;exact z2s (vs:=[.int .i64 x]) (z1k (by kernel_rfl)) (fun w E r=> .pv (.v _)) (fun w _=>zhj x h1 h2 w)
 split at h
 ·rename_i hf;obtain rfl:=Nat.eq_of_beq_eq_true hf;split at h<;>try(cases h;done)
  rename_i s a;split at h<;>try(cases h;done)
  rename_i hx;cases h;rw[Bool.and_eq_true]at hx;obtain⟨h1,h2⟩:=z8H hx.1;refine z2s (vs:=[.string s,.int .i64 a]) (v:=zlQ (z06 (bl s) a)) (z1k (by kernel_rfl)) (fun w E r=> ?_) (fun w hG=> ?_)
  ·generalize z06 (bl s) a=q;cases q with
   |none=>exact z5q [_,_,_]
   |some p=>exact z5q [_,_,_]
  ·have:=zgD (bl s) a a0 a1 w (by simpa using hx.2) h1 h2 hG.g;rw[zgj]at this;exact this
 split at h
 ·rename_i hf;obtain rfl:=Nat.eq_of_beq_eq_true hf;split at h<;>try(cases h;done)
  rename_i s;split at h<;>try(cases h;done)
  rename_i hx;cases h;refine z2s (vs:=[.string s]) (v:=z7m (bl s)) (z1k (by kernel_rfl)) (fun w E r=> ?_) (fun w hG=> ?_)
  ·unfold z7m zgn;split<;>exact z5q [_,_]
  ·have:=zmV (bl s) w (by simpa using hx);rw[zgj]at this;exact this
 split at h
 ·rename_i hf;obtain rfl:=Nat.eq_of_beq_eq_true hf;split at h<;>try(cases h;done)
  rename_i s a;split at h<;>try(cases h;done)
  rename_i hx;cases h;rw[Bool.and_eq_true]at hx;obtain⟨h1,h2⟩:=z8H hx.1;refine z2s (vs:=[.string s,.int .i64 a]) (v:=zi2 (zU (bl s) a)) (z1k (by kernel_rfl)) (fun w E r=> ?_) (fun w hG=> ?_)
  ·generalize zU (bl s) a=q;cases q with
   |none=>exact z5q [_,_,_]
   |some p=>exact z5q [_,_,_]
  ·have:=zeC (bl s) a a0 a1 w (by simpa using hx.2) h1 h2 hG.g;rw[zgj]at this;exact this
 exact zt8 (zao n _ _ _ _ _ h)
structure GlobNA(a0 a1:Addr)(n:Nat)(w:World):Prop extends GlobN a0 a1 n w where
 t:GlobT w
def glA(a0 a1:Addr)(n:Nat):Sh.Glob where
 G:=GlobNA a0 a1 n
 n:=n
 st:=fun w w' h hk=>⟨(gl a0 a1 n).st w w' h.toGlobN hk,zfj h.hv h.t hk⟩
 le:=fun w h=>h.sz
theorem zt6{a0 a1:Addr}{m f:Nat}{xs:List TV}{os:List MO}{y:TV}{os':List MO}(h:zC (gl a0 a1 m) f xs os y os'):zC (glA a0 a1 m) f xs os y os':=
 za3 (g:=gl a0 a1 m) (g':=glA a0 a1 m) rfl (fun w (hG:GlobNA a0 a1 m w)=>hG.toGlobN) h
structure GlobNX(a0 a1:Addr)(n:Nat)(w:World):Prop extends GlobNA a0 a1 n w where
 e:GlobE w
def glX(a0 a1:Addr)(n:Nat):Sh.Glob where
 G:=GlobNX a0 a1 n
 n:=n
 st:=fun w w' h hk=>⟨(glA a0 a1 n).st w w' h.toGlobNA hk,zfi h.hv h.e hk⟩
 le:=fun w h=>h.sz
theorem zt7{a0 a1:Addr}{m f:Nat}{xs:List TV}{os:List MO}{y:TV}{os':List MO}(h:zC (glA a0 a1 m) f xs os y os'):zC (glX a0 a1 m) f xs os y os':=
 za3 (g:=glA a0 a1 m) (g':=glX a0 a1 m) rfl (fun w (hG:GlobNX a0 a1 m w)=>hG.toGlobNA) h
theorem z2f{a0 a1:Addr}{m f:Nat}{xs:List TV}{os:List MO}{y:TV}{os':List MO}(h:zC (gl a0 a1 m) f xs os y os'):zC (glX a0 a1 m) f xs os y os':=zt7 (zt6 h)
theorem za2{a0 a1:Addr}{m f:Nat}{xs:List TV}{os:List MO}{y:TV}{os':List MO}(h:zC (glE m) f xs os y os'):zC (glX a0 a1 m) f xs os y os':=
 za3 (g:=glE m) (g':=glX a0 a1 m) rfl (fun w (hG:GlobNX a0 a1 m w)=>(⟨⟨⟨hG.g.toGlobU,hG.sz,hG.hv⟩,hG.t⟩,hG.e⟩:GlobNE m w)) h
section
open Go.Sh.Cd1
theorem zeH(l:zB):bl (str l)=l:=by simp[bl,str]
theorem zfn{x:Int}(h:I64 x):zaR x=true:=by unfold zaR;obtain⟨h1,h2⟩:=h;simp[h1,h2]
theorem z4u(a0 a1:Addr)(m:Nat)(x:Int)(h:I64 x):zC (gl a0 a1 m) 41 [I x] [] (S (str (num x))) []:=
 z5i a0 a1 m _ _ _ _ _ (by simp[z9T,I,Nat.beq,zfn h])
theorem zbk(a0 a1:Addr)(m:Nat)(l:zB)(h:l.length≤10000):zC (gl a0 a1 m) 70 [S (str l)] [] (.tuple [S (str (text l)),I 0]) []:=
 z5i a0 a1 m _ _ _ _ _ (by simp[z9T,S,Nat.beq,zeH,zgn,h];omega)
theorem zc5(a0 a1:Addr)(m:Nat)(l:zB)(a:Int)(hl:l.length<1125899906842624)(h:I64 a):zC (gl a0 a1 m) 73 [S (str l),I a] [] (z9Q (z06 l a)) []:=
 z5i a0 a1 m _ _ _ _ _ (by simp[z9T,S,I,Nat.beq,zeH,zfn h,hl])
theorem zar(a0 a1:Addr)(m:Nat)(l:zB)(a:Int)(hl:l.length<1125899906842624)(h:I64 a):zC (gl a0 a1 m) 72 [S (str l),I a] [] (z7i (zU l a)) []:=
 z5i a0 a1 m _ _ _ _ _ (by simp[z9T,S,I,Nat.beq,zeH,zfn h,hl])
theorem z4d{l:zB}(h:l.length≤60):(text l).length≤70:=by
 have:=z0n l.length;simp[text];omega
def zr0(x:V):Prop:=I64 x.k∧I64 x.n∧x.s.length≤60
end
end Go.Proofs.YtpmlapgbmgbilaaGreatDoor
end

section
namespace Go.Mor
open Go Go.RowKit
abbrev Rd(α:Type):Type:=zB→Int→Option (α×Int)
def Rd.bind{α β:Type}(r:Rd α)(f:α→Rd β):Rd β:=fun s a=>match r s a with|none=>none|some (v,b)=>f v s b
def Rd.ret{α:Type}(v:α):Rd α:=fun _ a=>some (v,a)
def Enc{α:Type}(r:Rd α)(e:zB)(v:α):Prop:=∀pre post:zB,r (pre++e++post) pre.length=some (v,((pre.length+e.length:Nat):Int))
def Cuts{α:Type}(r:Rd α):Prop:=∀(s:zB) (a:Int) (v:α) (b:Int) (k:Nat),r s a=some (v,b)→a≤k→a≤b∧(b≤k→r (s.take k) a=some (v,b))∧(k<b→r (s.take k) a=none)
theorem Enc.bind{α β:Type}{r:Rd α}{f:α→Rd β}{e1 e2:zB}{v1:α}{v2:β}(h1:Enc r e1 v1)(h2:Enc (f v1) e2 v2):Enc (r.bind f) (e1++e2) v2:=by
 intro pre post;have a:=h1 pre (e2++post);have b:=h2 (pre++e1) post
 grind [Rd.bind]
theorem Enc.ret{α:Type}(v:α):Enc (Rd.ret v) [] v:=fun pre post=>by simp[Rd.ret]
theorem Cuts.bind{α β:Type}{r:Rd α}{f:α→Rd β}(h1:Cuts r)(h2:∀v,Cuts (f v)):Cuts (r.bind f):=by
 intro s a v b k h hk;unfold Rd.bind at h ⊢;cases hr:r s a with
 |none=>grind
 |some p=>
  obtain⟨v1,b1⟩:=p;rw[hr]at h;obtain⟨g1,g2,g3⟩:=h1 s a v1 b1 k hr hk;by_cases hb:b1≤k
  ·obtain⟨j1,j2,j3⟩:=h2 v1 s b1 v b k h hb
   grind
  ·obtain⟨j1,_,_⟩:=h2 v1 s b1 v b b1.toNat h (by omega)
   grind
theorem Cuts.ret{α:Type}(v:α):Cuts (Rd.ret v):=by
 intro s a v' b k h hk;simp only[Rd.ret,Option.some.injEq,Prod.mk.injEq]at h ⊢
 grind
def cont:zB→zB
 |[]=>[]
 |[g]=>[g]
 |g::r=>(g+128)::cont r
theorem zkL(l:zB)(g:UInt8):cont (l++[g])=l.map (·+128)++[g]:=by
 induction l with
 |nil=>rfl
 |cons a r ih=>
  cases r with
  |nil=>rfl
  |cons b q=>simp only[List.cons_append,cont,List.map_cons]at ih ⊢;rw[ih]
theorem zlW(l:zB):z4M l=cont l:=by
 rcases List.eq_nil_or_concat l with rfl|⟨q,g,rfl⟩
 ·rfl
 ·rw[List.concat_eq_append,zkL];have:∀(n:Nat) (q:zB) (g:UInt8),q.length=n→z4M (q++[g])=q.map (·+128)++[g]:=by
   intro n
   induction n with
   |zero=>intro q g hq;obtain rfl:=List.eq_nil_of_length_eq_zero hq;rfl
   |succ n ih=>
    intro q g hq;rcases List.eq_nil_or_concat q with rfl|⟨p,a,rfl⟩
    ·simp at hq
    ·grind [z8W,zdd]
  grind
theorem zm2{k:Nat}{b:UInt8}(st:Nat×Nat)(r:zB)(hk:k≠0)(h0:b.toNat≠0)(h9:k=9→b.toNat≤1)(hb:b.toNat<128):z0P k st (b::r)=.ok (st.1+b.toNat*2 ^ (7*k-1),st.2,k+1):=by
 grind [z0P]
theorem zm3{k:Nat}{b:UInt8}(st:Nat×Nat)(r:zB)(hk:k≠0)(h9:k≠9)(hb:128≤b.toNat):z0P k st (b::r)=z0P (k+1) (st.1+b.toNat%128*2 ^ (7*k-1),st.2) r:=by
 grind [z0P]
theorem zjJ{b:UInt8}(st:Nat×Nat)(r:zB)(hb:b.toNat<128):z0P 0 st (b::r)=.ok (b.toNat / 2,b.toNat%2,1):=by
 grind [z0P]
theorem zjK{b:UInt8}(st:Nat×Nat)(r:zB)(hb:128≤b.toNat):z0P 0 st (b::r)=z0P 1 (b.toNat%128 / 2,b.toNat%128%2) r:=by
 grind [z0P]
theorem zm4:∀(f k:Nat) (st:Nat×Nat) (m:Nat) (zy:zB),m≠0→1≤k→k+f=10→m<2 ^ (64-7*k)→
    z0P k st (cont (z1j f m)++zy)=.ok (st.1+m*2 ^ (7*k-1),st.2,k+(z1j f m).length):=by
  intro f
  induction f with
  | zero => intro k st m zy hm h1 h2 h3; obtain rfl : k = 10 := by omega
            simp at h3;omega
  |succ f ih=>
    intro k st m zy hm h1 h2 h3
    have hb:(UInt8.ofNat (m%128)).toNat=m%128:=by rw[UInt8.toNat_ofNat'];omega
    rw[z1j,if_neg hm]
    by_cases hd:m / 128=0
    · rw[hd,z8a]
      simp only[cont,List.cons_append,List.nil_append]
      have hm':m%128=m:=by omega
      rw[zm2 st zy (by omega) (by rw[hb];omega) (by rintro rfl;rw[hb];simp at h3;omega) (by rw[hb];omega),hb,hm']
      simp
    · have hk9:k≠9:=by rintro rfl;simp at h3;omega
      obtain⟨x,r,hx⟩:∃x r,z1j f (m / 128)=x::r:=by
        obtain⟨f',rfl⟩:∃f',f=f'+1:=⟨f-1,by omega⟩
        rw[z1j,if_neg hd];exact⟨_,_,rfl⟩
      have hcn:cont (UInt8.ofNat (m%128)::z1j f (m / 128))=(UInt8.ofNat (m%128)+128)::cont (z1j f (m / 128)):=by rw[hx];rfl
      rw[hcn,List.cons_append]
      have hbb:(UInt8.ofNat (m%128)+128).toNat=m%128+128:=by
        rw[UInt8.toNat_add,hb];show(m%128+128)%256=_;omega
      rw[zm3 st _ (by omega) hk9 (by rw[hbb];omega),hbb]
      have hp:(2:Nat) ^ (64-7*k)=2 ^ (64-7*(k+1))*128:=by
        rw[show 64-7*k=(64-7*(k+1))+7 by omega,Nat.pow_add]
      rw[ih (k+1) _ (m / 128) zy hd (by omega) (by omega) (by rw[hp]at h3;omega)]
      have hq:(2:Nat) ^ (7*(k+1) - 1)=128*2 ^ (7*k-1):=by
        rw[show 7*(k+1) - 1=7+(7*k-1) by omega,Nat.pow_add]
      simp only[List.length_cons]
      congr 2
      · rw[hq,show(m%128+128)%128=m%128 by omega]
        generalize 2 ^ (7*k-1)=Q
        have:m*Q=(m%128)*Q+(m / 128)*(128*Q):=by
          conv=>lhs;rw[show m=m%128+128*(m / 128) by omega]
          rw[Nat.add_mul,Nat.mul_comm 128 (m / 128),Nat.mul_assoc]
        omega
      · congr 1;omega
theorem zm6(x:Int)(h0: -9223372036854775808≤x)(h1:x≤9223372036854775807)(pre post:zB):rd (pre++num x++post) pre.length=.ok (x,(num x).length):=by
 have hpos:=zqf x;unfold rd;rw[if_pos (by grind)];have hd:List.drop (pre.length:Int).toNat (pre++num x++post)=num x++post:=by
  simp
 have hnl:(num x).length=1+(z1j 9 (mag x / 64)).length:=by grind [num,z5g,z4D]
 rw[hd,hnl,num,zlW,z4D];have hs:sgn x≤1:=by grind [sgn]
 have hb:(UInt8.ofNat (mag x%64*2+sgn x)).toNat=mag x%64*2+sgn x:=by rw[UInt8.toNat_ofNat'];omega
 have key:z0P 0 (0,0) (cont (UInt8.ofNat (mag x%64*2+sgn x)::z1j 9 (mag x / 64))++post)=.ok (mag x,sgn x,1+(z1j 9 (mag x / 64)).length):=by
  by_cases hz:mag x / 64=0
  ·rw[hz,z8a];simp only[cont,List.cons_append,List.nil_append]
   grind [zjJ]
  ·obtain⟨y,r,hx⟩:∃y r,z1j 9 (mag x / 64)=y::r:=by
    grind [z1j]
   have hcn:cont (UInt8.ofNat (mag x%64*2+sgn x)::z1j 9 (mag x / 64))=(UInt8.ofNat (mag x%64*2+sgn x)+128)::cont (z1j 9 (mag x / 64)):=by rw[hx];rfl
   grind [UInt8.ofNat,mag,sgn,UInt8.toNat_add,zjK,zm4]
 grind [sgn,mag]
theorem z4k(x:Int)(h0: -9223372036854775808≤x)(h1:x≤9223372036854775807):Enc z06 (num x) x:=by
 intro pre post
 grind [z06,zm6]
theorem z45(t:zB)(ht:t.length≤10000):Enc zU (text t) t:=by
 intro pre post;have h:=zm6 t.length (by omega) (by omega) pre (t++post);rw[show pre++text t++post=pre++num t.length++(t++post) by simp[text],zU,rdW,h]
 dsimp only
 rw[show((pre.length:Int)+((num t.length).length:Nat)).toNat=(pre++num t.length).length by simp;omega,List.drop_left,show((t.length:Int)).toNat=t.length by omega,List.take_left]
 grind [text]
end Go.Mor
end

section
namespace Go.Proofs.YtpmlapgbmgbilaaGreatDoor
open Go Go.RowKit Go.Mor Go.Sh
section
open Go.Sh.Cd1 Go.Sh.Cd7
def z44(h:Chg):zB:=num h.k++text h.f++text h.n++text h.m++(num h.t.k++num h.t.o)++text h.x++text h.o
structure ChFit(h:Chg):Prop where
 k:I64 h.k
 tk:I64 h.t.k
 ot:I64 h.t.o
 f:h.f.length≤10000
 n:h.n.length≤10000
 m:h.m.length≤10000
 x:h.x.length≤10000
 o:h.o.length≤10000
theorem z5w(a0 a1:Addr)(m:Nat)(s:zB)(hs:s.length≤10000):zC (gl a0 a1 m) 46 [S (str s)] [] (S (str (text s))) []:=by
 have HT:=zbk a0 a1 m s hs;refine z0u tf_52 ?_;exact zf HT
theorem z3b{s:zB}(h:s.length≤10000):(text s).length≤10010:=by unfold text;rw[List.length_append];have:=z0n (s.length:Int);omega
def ziT(h:Chg):TV:=if z04 h then .tuple [S (str (z44 h)),I 0] else .tuple [S (str []),I 70]
theorem ziU(a0 a1:Addr)(m:Nat)(h:Chg)(hh:ChOk m h)(hf:ChFit h):zC (glX a0 a1 m) 19 [chT h] [] (ziT h) []:=by
 have HW:=za2 (a0:=a0) (a1:=a1) (z40 m h hh);have N1:=z2f (z4u a0 a1 m h.k hf.k);have N2:=z2f (z4u a0 a1 m h.t.k hf.tk);have N3:=z2f (z4u a0 a1 m h.t.o hf.ot);have T1:=z2f (z5w a0 a1 m h.f hf.f);have T2:=z2f (z5w a0 a1 m h.n hf.n);have T3:=z2f (z5w a0 a1 m h.m hf.m);have T4:=z2f (z5w a0 a1 m h.x hf.x);have T5:=z2f (z5w a0 a1 m h.o hf.o);have l1:=z0n h.k;have l2:=z0n h.t.k;have l3:=z0n h.t.o;have m1:=z3b hf.f;have m2:=z3b hf.n;have m3:=z3b hf.m;have m4:=z3b hf.x;have m5:=z3b hf.o;unfold ziT z44;generalize num h.k=n1 at*;generalize num h.t.k=n2 at*;generalize num h.t.o=n3 at*;generalize text h.f=t1 at*;generalize text h.n=t2 at*;generalize text h.m=t3 at*;generalize text h.x=t4 at*;generalize text h.o=t5 at*;refine za tf_40 ?_;unfold chT B at*;generalize z04 h=wv at*;cases wv
 ·simp only[vW,seval];refine z8 HW ?_;rfl
 simp only[vW,seval];refine z8 HW ?_;refine z8 N1 ?_;refine zk (σ:={i:Nat // i≤3}) (fun i=>⟨[(1,.ptr 1 0),(4,S (str (n1++([t1,t2,t3].take i.1).flatten))),(19,.pv (.sl 1 [[.v (.string (str h.f))],[.v (.string (str h.n))],[.v (.string (str h.m))]])),(20,I 3),(21,I (i.1:Int))],
  [(1,[I h.k,S (str h.f),S (str h.n),S (str h.m),I h.t.k,I h.t.o,S (str h.x),S (str h.o)])],[],[]⟩) (fun i=>3-i.1) ⟨0,by decide⟩ ?_ ?_
 ·exact lwA
 rintro⟨i,hi⟩;have hi:i=0∨i=1∨i=2∨i=3:=by omega
 have e0:([t1,t2,t3].take 0).flatten=[]:=rfl;have e1:([t1,t2,t3].take 1).flatten=t1:=by simp
 have e2:([t1,t2,t3].take 2).flatten=t1++t2:=by simp
 have e3:([t1,t2,t3].take 3).flatten=t1++(t2++t3):=by simp
 rcases hi with rfl|rfl|rfl|rfl
 ·simp only[e0,List.append_nil];simp only[vW,seval];refine z8 T1 ?_;refine⟨by omega,zc ⟨1,by decide⟩ (by show 3-1<3-0;decide) ?_⟩;simp only[e1];apply z0e<;>simp[leL,lk,sv,Nat.beq,I,S,ES.kill,has,drp,zn,show IntKind.i64.wrap 1=1 from rfl,show IntKind.i64.wrap 2=2 from rfl,show IntKind.i64.wrap 3=3 from rfl]
 ·simp only[e1];simp only[vW,seval];refine z8 T2 ?_;refine⟨by(try simp only[List.length_append]);omega,zc ⟨2,by decide⟩ (by show 3-2<3-1;decide) ?_⟩;simp only[e2,←List.append_assoc];apply z0e<;>simp[leL,lk,sv,Nat.beq,I,S,ES.kill,has,drp,zn,show IntKind.i64.wrap 1=1 from rfl,show IntKind.i64.wrap 2=2 from rfl,show IntKind.i64.wrap 3=3 from rfl]
 ·simp only[e2,←List.append_assoc];simp only[vW,seval];refine z8 T3 ?_;refine⟨by(try simp only[List.length_append]);omega,zc ⟨3,by decide⟩ (by show 3-3<3-2;decide) ?_⟩;simp only[e3,←List.append_assoc];apply z0e<;>simp[leL,lk,sv,Nat.beq,I,S,ES.kill,has,drp,zn,show IntKind.i64.wrap 1=1 from rfl,show IntKind.i64.wrap 2=2 from rfl,show IntKind.i64.wrap 3=3 from rfl]
 ·simp only[e3,←List.append_assoc];simp only[vW,seval];refine z8 N2 ?_;refine z8 N3 ?_;refine⟨by omega,by(try simp only[List.length_append]);omega,?_⟩;refine z8 T4 ?_;refine⟨by(try simp only[List.length_append]);omega,?_⟩;refine z8 T5 ?_;refine⟨by omega,?_⟩;simp[List.append_assoc]
end
theorem zpc(n:Nat)(a b c d:Int):zq Tryz.prog (Op.equalIn (n+1+1) 27 (.agg #[.int .i64 a,.int .i64 b]) (.agg #[.int .i64 c,.int .i64 d]))=some (z0g ⟨a,b⟩ ⟨c,d⟩):=by
 rw[z2q _ _ _ _ (by kernel_rfl) (by kernel_rfl)];obtain⟨f,g,hl,nf,ng,pf,pg,ef,eg⟩:=zbh;rw[hl];simp only[Op.eqFields,nf,ng,ne_eq,not_false_eq_true,if_true,z02,pf,pg,ef,eg,Option.bind_some];unfold z0g;cases h:(a==c)
 ·simp[h,z2a]
 ·cases h2:(b==d)<;>simp[h,h2,z2a,z02,pg,eg,ng]
structure PartOk(f:Field)(x y:Array Value)(a b:Value)(e:Bool):Prop where
 nm:f.name≠ "_"
 px:zq Tryz.prog (part f.type x f.offset)=some a
 py:zq Tryz.prog (part f.type y f.offset)=some b
 eq:∀n,zq Tryz.prog (Op.equalIn (n+1+1) f.type a b)=some e
theorem z1D{f:Field}{l:List Field}{x y:Array Value}{a b:Value}{e r:Bool}{n:Nat}(h:PartOk f x y a b e)(hl:zq Tryz.prog (Op.eqFields (n+1+1) x y l)=some r):zq Tryz.prog (Op.eqFields (n+1+1) x y (f::l))=some (e&&r):=by
 obtain⟨h1,h2,h3,h4⟩:=h;simp only[Op.eqFields,h1,ne_eq,not_false_eq_true,if_true,z02,h2,h3,h4,Option.bind_some];cases e
 ·simp[z2a]
 ·simpa using hl
theorem zdI{x y:Array Value}{n:Nat}:zq Tryz.prog (Op.eqFields n x y [])=some true:=rfl
theorem prS(n:Nat)(a b:ByteArray):zq Tryz.prog (Op.equalIn (n+1) 9 (.string a) (.string b))=some (a==b):=by kernel_rfl
theorem prI(n:Nat)(a b:Int):zq Tryz.prog (Op.equalIn (n+1) 3 (.int .i64 a) (.int .i64 b))=some (a==b):=by kernel_rfl
theorem prB(n:Nat)(a b:Bool):zq Tryz.prog (Op.equalIn (n+1) 4 (.bool a) (.bool b))=some (a==b):=by kernel_rfl
def fldA(s:ByteArray)(k o:Int)(b:Bool):Array Value:= #[.string s,.int .i64 k,.int .i64 o,.bool b]
theorem zrl(s s':ByteArray)(k k' o o':Int)(b b':Bool):zq Tryz.prog (Op.equal 71 (.agg (fldA s k o b)) (.agg (fldA s' k' o' b')))=some ((s==s')&&(z0g ⟨k,o⟩ ⟨k',o'⟩&&((b==b')&&true))):=by
 unfold Op.equal;obtain⟨n,hn⟩:∃n,Op.maxDepth=n+1+1+1:=⟨_,rfl⟩
 rw[hn,z2q _ _ _ _ (by kernel_rfl) (by kernel_rfl)];obtain⟨f,g,h,hl⟩:∃f g h,(Tryz.prog.fieldsOf 71).toList=[f,g,h]∧PartOk f (fldA s k o b) (fldA s' k' o' b') (.string s) (.string s') (s==s')∧PartOk g (fldA s k o b) (fldA s' k' o' b') (.agg #[.int .i64 k,.int .i64 o]) (.agg #[.int .i64 k',.int .i64 o']) (z0g ⟨k,o⟩ ⟨k',o'⟩)∧PartOk h (fldA s k o b) (fldA s' k' o' b') (.bool b) (.bool b') (b==b'):=
  ⟨(Tryz.prog.fieldsOf 71).toList.getD 0 default,(Tryz.prog.fieldsOf 71).toList.getD 1 default,(Tryz.prog.fieldsOf 71).toList.getD 2 default,by kernel_rfl,
   ⟨of_decide_eq_true (by kernel_rfl),by kernel_rfl,by kernel_rfl,fun n=>prS (n+1) _ _⟩,⟨of_decide_eq_true (by kernel_rfl),by kernel_rfl,by kernel_rfl,fun n=>zpc n _ _ _ _⟩,⟨of_decide_eq_true (by kernel_rfl),by kernel_rfl,by kernel_rfl,fun n=>prB (n+1) _ _⟩⟩
 rw[hl.1];exact z1D hl.2.1 (z1D hl.2.2.1 (z1D hl.2.2.2 zdI))
theorem zrN(s s':ByteArray)(k k' o o':Int)(b b':Bool):z05 Tryz.prog (do eqGuard .neq 71 (.const (.agg #[.string s,.int .i64 k,.int .i64 o,.bool b])) (.const (.agg #[.string s',.int .i64 k',.int .i64 o',.bool b'])) (.agg #[.string s,.int .i64 k,.int .i64 o,.bool b]) (.agg #[.string s',.int .i64 k',.int .i64 o',.bool b']);binOp .neq 71 (.agg #[.string s,.int .i64 k,.int .i64 o,.bool b]) (.agg #[.string s',.int .i64 k',.int .i64 o',.bool b']))=
  some (.pv (.v (.bool (!((s==s')&&(z0g ⟨k,o⟩ ⟨k',o'⟩&&((b==b')&&true)))))),.no):=by
 unfold z05;rw[z02];have hg:zq Tryz.prog (eqGuard .neq 71 (.const (.agg #[.string s,.int .i64 k,.int .i64 o,.bool b])) (.const (.agg #[.string s',.int .i64 k',.int .i64 o',.bool b'])) (.agg #[.string s,.int .i64 k,.int .i64 o,.bool b]) (.agg #[.string s',.int .i64 k',.int .i64 o',.bool b']))=some ():=by kernel_rfl
 rw[hg,Option.bind_some];have hb:binOp .neq 71 (.agg #[.string s,.int .i64 k,.int .i64 o,.bool b]) (.agg #[.string s',.int .i64 k',.int .i64 o',.bool b'])=(Op.equal 71 (.agg (fldA s k o b)) (.agg (fldA s' k' o' b'))>>=fun r=>pure (.bool (!r))):=rfl;rw[hb,z02,zrl];rfl
section
open Go.Sh.Cd1 Go.Sh.Cd7
def rdB(l:zB)(st:Int×Bool):MO:=.box [S (str l),I st.1,B st.2]
def nuS(l:zB)(st:Int×Bool):Int×(Int×Bool):=if st.2 then(0,(st.1,true))else match z06 l st.1 with|some (n,b)=>(n,(b,false))|none=>(0,(st.1,true))
def txS(l:zB)(st:Int×Bool):zB×(Int×Bool):=if st.2 then([],(st.1,true))else match zU l st.1 with|some (t,b)=>(t,(b,false))|none=>([],(st.1,true))
theorem z90(a0 a1:Addr)(m:Nat)(l:zB)(st:Int×Bool)(hl:l.length<1125899906842624)(h:I64 st.1):
  zC (gl a0 a1 m) 47 [.ptr 1000 0] [rdB l st] (I (nuS l st).1) [rdB l (nuS l st).2]:=by
 have HR:=zc5 a0 a1 m l st.1 hl h;obtain⟨a,bad⟩:=st;unfold nuS rdB
 dsimp only at*
 refine zj tf_0 ?_;unfold B at*;cases hr:z06 l a with
 |none=>
  rw[hr]at HR;simp only[z9Q]at HR;cases bad
  ·simp only[vW,seval];exact zf HR
  ·simp only[vW,seval];exact zf HR
 |some p=>
  obtain⟨n,b⟩:=p;rw[hr]at HR;simp only[z9Q]at HR;cases bad
  ·simp only[vW,seval];exact zf HR
  ·simp only[vW,seval];exact zf HR
theorem z4O(a0 a1:Addr)(m:Nat)(l:zB)(st:Int×Bool)(hl:l.length<1125899906842624)(h:I64 st.1):
  zC (gl a0 a1 m) 48 [.ptr 1000 0] [rdB l st] (S (str (txS l st).1)) [rdB l (txS l st).2]:=by
 have HR:=zar a0 a1 m l st.1 hl h;have e0:=bS [];obtain⟨a,bad⟩:=st;unfold txS rdB
 dsimp only at*
 refine zj tf_1 ?_;unfold B at*;cases hr:zU l a with
 |none=>
  rw[hr]at HR;simp only[z7i]at HR;cases bad
  ·simp only[vW,seval];refine z7 HR ?_;simp only[vW,seval,e0]
  ·simp only[vW,seval];refine z7 HR ?_;simp only[vW,seval,e0]
 |some p=>
  obtain⟨n,b⟩:=p;rw[hr]at HR;simp only[z7i]at HR;cases bad
  ·simp only[vW,seval];refine z7 HR ?_;simp only[vW,seval,e0]
  ·simp only[vW,seval];refine z7 HR ?_;simp only[vW,seval,e0]
theorem zfF{l:zB}{st:Int×Bool}(hl:l.length<1125899906842624)(h:I64 st.1):I64 (nuS l st).2.1∧I64 (nuS l st).1:=by
 unfold nuS;split
 ·exact⟨h,by unfold I64;omega⟩
 split
 ·rename_i e;have:=z8j e;exact⟨⟨by dsimp only;omega,by dsimp only;omega⟩,⟨by dsimp only;omega,by dsimp only;omega⟩⟩
 ·exact⟨h,by unfold I64;omega⟩
theorem z9m{l:zB}{st:Int×Bool}(hl:l.length<1125899906842624)(h:I64 st.1):I64 (txS l st).2.1∧(txS l st).1.length≤10000:=by
 unfold txS;split
 ·exact⟨h,by simp⟩
 split
 ·rename_i e;have:=zcS e;exact⟨⟨by dsimp only;omega,by dsimp only;omega⟩,by dsimp only;omega⟩
 ·exact⟨h,by simp⟩
def z63(l:zB)(a:Int):Chg×(Int×Bool):=
 let r1:=nuS l (a,false)
 let r2:=txS l r1.2
 let r3:=txS l r2.2
 let r4:=txS l r3.2
 let r5:=nuS l r4.2
 let r6:=nuS l r5.2
 let r7:=txS l r6.2
 let r8:=txS l r7.2
 (⟨r1.1,r2.1,r3.1,r4.1,⟨r5.1,r6.1⟩,r7.1,r8.1⟩,r8.2)
def zrc:Chg:=⟨0,[],[],[],⟨0,0⟩,[],[]⟩
def ziK(l:zB)(a:Int):TV:=
 bif (z63 l a).2.2|| !z04 (z63 l a).1 then .tuple [chT zrc,I 0,I 10] else .tuple [chT (z63 l a).1,I (z63 l a).2.1,I 0]
theorem ziL(a0 a1:Addr)(m:Nat)(l:zB)(a:Int)(hl:l.length<1125899906842624)(h:I64 a)(hh:(z63 l a).2.2=false→ChOk m (z63 l a).1):
  zC (glX a0 a1 m) 20 [S (str l),I a] [] (ziK l a) []:=by
 have e0:=bS [];unfold ziK;unfold z63 at*
 dsimp only at*
 have H1:=z2f (z90 a0 a1 m l (a,false) hl h);have b1:=(zfF (st:=(a,false)) hl h).1;generalize nuS l (a,false)=r1 at*;obtain⟨n1,s1⟩:=r1;have H2:=z2f (z4O a0 a1 m l s1 hl b1);have b2:=(z9m hl b1).1
 dsimp only at*
 generalize txS l s1=r2 at*;obtain⟨n2,s2⟩:=r2;have H3:=z2f (z4O a0 a1 m l s2 hl b2);have b3:=(z9m hl b2).1
 dsimp only at*
 generalize txS l s2=r3 at*;obtain⟨n3,s3⟩:=r3;have H4:=z2f (z4O a0 a1 m l s3 hl b3);have b4:=(z9m hl b3).1
 dsimp only at*
 generalize txS l s3=r4 at*;obtain⟨n4,s4⟩:=r4;have H5:=z2f (z90 a0 a1 m l s4 hl b4);have b5:=(zfF hl b4).1
 dsimp only at*
 generalize nuS l s4=r5 at*;obtain⟨n5,s5⟩:=r5;have H6:=z2f (z90 a0 a1 m l s5 hl b5);have b6:=(zfF hl b5).1
 dsimp only at*
 generalize nuS l s5=r6 at*;obtain⟨n6,s6⟩:=r6;have H7:=z2f (z4O a0 a1 m l s6 hl b6);have b7:=(z9m hl b6).1
 dsimp only at*
 generalize txS l s6=r7 at*;obtain⟨n7,s7⟩:=r7;have H8:=z2f (z4O a0 a1 m l s7 hl b7);have b8:=(z9m hl b7).1
 dsimp only at*
 generalize txS l s7=r8 at*;obtain⟨n8,a8,bad⟩:=r8
 dsimp only at*
 have HW:bad=false→_:=fun e=>za2 (a0:=a0) (a1:=a1) (z40 m _ (hh e));generalize z04 _=wv at*;unfold chT zrc rdB B at*
 dsimp only at*
 refine z0u tf_39 ?_;refine z7 H1 ?_;refine z7 H2 ?_;refine z7 H3 ?_;refine z8 H4 ?_;refine z8 H5 ?_;refine z8 H6 ?_;refine z8 H7 ?_;refine z7 H8 ?_;cases bad
 ·have HW:=HW rfl;cases wv
  ·simp only[vW,seval];refine z7 HW ?_;simp only[vW,seval,e0];rfl
  ·simp only[vW,seval];refine z7 HW ?_;simp only[vW,seval,e0];rfl
 ·simp only[vW,seval,e0];rfl
def z0j(a b:Chg):Bool:=(a.k==b.k)&&((a.f==b.f)&&((a.n==b.n)&&((a.m==b.m)&&(z0g a.t b.t&&((a.x==b.x)&&((a.o==b.o)&&true))))))
def chA(k:Int)(f n m:ByteArray)(t o:Int)(x y:ByteArray):Array Value:= #[.int .i64 k,.string f,.string n,.string m,.int .i64 t,.int .i64 o,.string x,.string y]
theorem zkX(k k':Int)(f n m f' n' m':ByteArray)(t o t' o':Int)(x y x' y':ByteArray):zq Tryz.prog (Op.equal 37 (.agg (chA k f n m t o x y)) (.agg (chA k' f' n' m' t' o' x' y')))=
  some ((k==k')&&((f==f')&&((n==n')&&((m==m')&&(z0g ⟨t,o⟩ ⟨t',o'⟩&&((x==x')&&((y==y')&&true))))))):=by
 unfold Op.equal;obtain⟨d,hn⟩:∃d,Op.maxDepth=d+1+1+1:=⟨_,rfl⟩
 rw[hn,z2q _ _ _ _ (by kernel_rfl) (by kernel_rfl)];obtain⟨f1,f2,f3,f4,f5,f6,f7,hl,P1,P2,P3,P4,P5,P6,P7⟩:∃f1 f2 f3 f4 f5 f6 f7,(Tryz.prog.fieldsOf 37).toList=[f1,f2,f3,f4,f5,f6,f7]∧
   PartOk f1 (chA k f n m t o x y) (chA k' f' n' m' t' o' x' y') (.int .i64 k) (.int .i64 k') (k==k')∧
   PartOk f2 (chA k f n m t o x y) (chA k' f' n' m' t' o' x' y') (.string f) (.string f') (f==f')∧
   PartOk f3 (chA k f n m t o x y) (chA k' f' n' m' t' o' x' y') (.string n) (.string n') (n==n')∧
   PartOk f4 (chA k f n m t o x y) (chA k' f' n' m' t' o' x' y') (.string m) (.string m') (m==m')∧
   PartOk f5 (chA k f n m t o x y) (chA k' f' n' m' t' o' x' y') (.agg #[.int .i64 t,.int .i64 o]) (.agg #[.int .i64 t',.int .i64 o']) (z0g ⟨t,o⟩ ⟨t',o'⟩)∧
   PartOk f6 (chA k f n m t o x y) (chA k' f' n' m' t' o' x' y') (.string x) (.string x') (x==x')∧
   PartOk f7 (chA k f n m t o x y) (chA k' f' n' m' t' o' x' y') (.string y) (.string y') (y==y'):=
  ⟨(Tryz.prog.fieldsOf 37).toList.getD 0 default,(Tryz.prog.fieldsOf 37).toList.getD 1 default,(Tryz.prog.fieldsOf 37).toList.getD 2 default,(Tryz.prog.fieldsOf 37).toList.getD 3 default,
   (Tryz.prog.fieldsOf 37).toList.getD 4 default,(Tryz.prog.fieldsOf 37).toList.getD 5 default,(Tryz.prog.fieldsOf 37).toList.getD 6 default,by kernel_rfl,
   ⟨of_decide_eq_true (by kernel_rfl),by kernel_rfl,by kernel_rfl,fun n=>prI (n+1) _ _⟩,
   ⟨of_decide_eq_true (by kernel_rfl),by kernel_rfl,by kernel_rfl,fun n=>prS (n+1) _ _⟩,
   ⟨of_decide_eq_true (by kernel_rfl),by kernel_rfl,by kernel_rfl,fun n=>prS (n+1) _ _⟩,
   ⟨of_decide_eq_true (by kernel_rfl),by kernel_rfl,by kernel_rfl,fun n=>prS (n+1) _ _⟩,
   ⟨of_decide_eq_true (by kernel_rfl),by kernel_rfl,by kernel_rfl,fun n=>zpc n _ _ _ _⟩,
   ⟨of_decide_eq_true (by kernel_rfl),by kernel_rfl,by kernel_rfl,fun n=>prS (n+1) _ _⟩,
   ⟨of_decide_eq_true (by kernel_rfl),by kernel_rfl,by kernel_rfl,fun n=>prS (n+1) _ _⟩⟩
 rw[hl];exact z1D P1 (z1D P2 (z1D P3 (z1D P4 (z1D P5 (z1D P6 (z1D P7 zdI))))))
theorem zrm(k k':Int)(f n m f' n' m':ByteArray)(t o t' o':Int)(x y x' y':ByteArray):
  z05 Tryz.prog (do eqGuard .eql 37 (.const (.agg #[.int .i64 k,.string f,.string n,.string m,.int .i64 t,.int .i64 o,.string x,.string y])) (.const (.agg #[.int .i64 k',.string f',.string n',.string m',.int .i64 t',.int .i64 o',.string x',.string y'])) (.agg #[.int .i64 k,.string f,.string n,.string m,.int .i64 t,.int .i64 o,.string x,.string y]) (.agg #[.int .i64 k',.string f',.string n',.string m',.int .i64 t',.int .i64 o',.string x',.string y']);binOp .eql 37 (.agg #[.int .i64 k,.string f,.string n,.string m,.int .i64 t,.int .i64 o,.string x,.string y]) (.agg #[.int .i64 k',.string f',.string n',.string m',.int .i64 t',.int .i64 o',.string x',.string y']))=
  some (.pv (.v (.bool ((k==k')&&((f==f')&&((n==n')&&((m==m')&&(z0g ⟨t,o⟩ ⟨t',o'⟩&&((x==x')&&((y==y')&&true))))))))),.no):=by
 unfold z05;rw[z02];have hg:zq Tryz.prog (eqGuard .eql 37 (.const (.agg #[.int .i64 k,.string f,.string n,.string m,.int .i64 t,.int .i64 o,.string x,.string y])) (.const (.agg #[.int .i64 k',.string f',.string n',.string m',.int .i64 t',.int .i64 o',.string x',.string y'])) (.agg #[.int .i64 k,.string f,.string n,.string m,.int .i64 t,.int .i64 o,.string x,.string y]) (.agg #[.int .i64 k',.string f',.string n',.string m',.int .i64 t',.int .i64 o',.string x',.string y']))=some ():=by kernel_rfl
 rw[hg,Option.bind_some];have hb:binOp .eql 37 (.agg #[.int .i64 k,.string f,.string n,.string m,.int .i64 t,.int .i64 o,.string x,.string y]) (.agg #[.int .i64 k',.string f',.string n',.string m',.int .i64 t',.int .i64 o',.string x',.string y'])=(Op.equal 37 (.agg (chA k f n m t o x y)) (.agg (chA k' f' n' m' t' o' x' y'))>>=fun r=>pure (.bool r)):=rfl;rw[hb,z02,zkX];rfl
theorem zps(a b:zB):(str a==str b)=(a==b):=by
 show((str a).data==(str b).data)=(a==b)
 rw[Bool.eq_iff_iff,beq_iff_eq,beq_iff_eq];constructor
 ·intro h;have:=congrArg Array.toList h;simpa [str]using this
 ·intro h;rw[h]
theorem zk5(g:Sh.Glob)(a b:Chg):zC g 53 [chT a,chT b] [] (B (z0j a b)) []:=by
 have H:=zrm a.k b.k (str a.f) (str a.n) (str a.m) (str b.f) (str b.n) (str b.m) a.t.k a.t.o b.t.k b.t.o (str a.x) (str a.o) (str b.x) (str b.o);simp only[zps]at H;refine za tf_41 ?_;unfold chT B z0j;simp only[vW,seval,H]
def rd7:Rd Chg:=
 Rd.bind z06 fun k=>Rd.bind zU fun f=>Rd.bind zU fun n=>Rd.bind zU fun m=>Rd.bind z06 fun t=>Rd.bind z06 fun o=>Rd.bind zU fun x=>Rd.bind zU fun y=>Rd.ret ⟨k,f,n,m,⟨t,o⟩,x,y⟩
theorem zti{h:Chg}(hf:ChFit h):Enc rd7 (z44 h) h:=by
 have e:z44 h=num h.k++(text h.f++(text h.n++(text h.m++(num h.t.k++(num h.t.o++(text h.x++(text h.o++[]))))))):=by unfold z44;simp
 rw[e];refine(z4k _ hf.k.1 hf.k.2).bind ((z45 _ hf.f).bind ((z45 _ hf.n).bind ((z45 _ hf.m).bind ((z4k _ hf.tk.1 hf.tk.2).bind ((z4k _ hf.ot.1 hf.ot.2).bind ((z45 _ hf.x).bind ((z45 _ hf.o).bind ?_)))))));exact Enc.ret _
theorem z6A(l:zB)(a:Int):nuS l (a,true)=(0,(a,true)):=rfl
theorem z6J(l:zB)(a:Int):txS l (a,true)=([],(a,true)):=rfl
theorem zjo{l:zB}{a:Int}(h:z06 l a=none):nuS l (a,false)=(0,(a,true)):=by unfold nuS;simp[h]
theorem zcq{l:zB}{a:Int}(h:zU l a=none):txS l (a,false)=([],(a,true)):=by unfold txS;simp[h]
theorem zjp{l:zB}{a n b:Int}(h:z06 l a=some (n,b)):nuS l (a,false)=(n,(b,false)):=by unfold nuS;simp[h]
theorem zcr{l t:zB}{a b:Int}(h:zU l a=some (t,b)):txS l (a,false)=(t,(b,false)):=by unfold txS;simp[h]
theorem zpL(l:zB)(a:Int):match rd7 l a with|some (h,b)=>z63 l a=(h,(b,false))|none=>(z63 l a).2.2=true:=by
 unfold rd7 Rd.bind Rd.ret z63;rcases h1:z06 l a with _|⟨k,b1⟩
 ·simp only[zjo h1,z6A,z6J]
 simp only[zjp h1];rcases h2:zU l b1 with _|⟨f,b2⟩
 ·simp only[zcq h2,z6A,z6J]
 simp only[zcr h2];rcases h3:zU l b2 with _|⟨n,b3⟩
 ·simp only[zcq h3,z6A,z6J]
 simp only[zcr h3];rcases h4:zU l b3 with _|⟨m,b4⟩
 ·simp only[zcq h4,z6A,z6J]
 simp only[zcr h4];rcases h5:z06 l b4 with _|⟨t,b5⟩
 ·simp only[zjo h5,z6A,z6J]
 simp only[zjp h5];rcases h6:z06 l b5 with _|⟨o,b6⟩
 ·simp only[zjo h6,z6A,z6J]
 simp only[zjp h6];rcases h7:zU l b6 with _|⟨x,b7⟩
 ·simp only[zcq h7,z6A,z6J]
 simp only[zcr h7];rcases h8:zU l b7 with _|⟨y,b8⟩
 ·simp only[zcq h8,z6A,z6J]
 simp only[zcr h8]
theorem znm{h:Chg}(hf:ChFit h)(pre post:zB):z63 (pre++z44 h++post) pre.length=(h,(((pre.length+(z44 h).length:Nat):Int),false)):=by
 have:=zpL (pre++z44 h++post) pre.length;rw[zti hf pre post]at this;exact this
theorem zmY(a0 a1:Addr)(m:Nat)(h:Chg)(hh:ChOk m h)(hf:ChFit h)(hw:z04 h=true)(pre post:zB)(hl:(pre++z44 h++post).length<1125899906842624):
  zC (glX a0 a1 m) 20 [S (str (pre++z44 h++post)),I (pre.length:Int)] [] (.tuple [chT h,I ((pre.length+(z44 h).length:Nat):Int),I 0]) []:=by
 have H:=ziL a0 a1 m (pre++z44 h++post) (pre.length:Int) hl ⟨by omega,by simp only[List.length_append]at hl;omega⟩;unfold ziK at H;rw[znm hf pre post]at H;have H:=H (fun _=>hh);simpa only[hw,Bool.not_true,Bool.or_self,cond_false]using H
theorem znv{h:Chg}(hf:ChFit h):0<(z44 h).length∧(z44 h).length≤60000:=by
 unfold z44;have l1:=z0n h.k;have l2:=z0n h.t.k;have l3:=z0n h.t.o;have m1:=z3b hf.f;have m2:=z3b hf.n;have m3:=z3b hf.m;have m4:=z3b hf.x;have m5:=z3b hf.o;have p:=z8j (by simpa using z4k _ hf.k.1 hf.k.2 [] []);simp only[List.length_append];omega
theorem za6(m:Nat){s:zB}{r:V×Int×Int}(h:z2P 1000 s=some r)(hl:s.length<4611686018427387904):TxOk m s:=by
 have e:rdV s=r:=by unfold rdV;rw[h];rfl
 refine⟨hl,fun _=> ?_,fun _=> ?_⟩
 ·rw[e];exact zch (zlX m s h)
 ·rw[e];unfold z2P at h;split at h
  ·cases h;exact z5U
  ·split at h
   ·cases h
   ·cases h;exact z5U
   ·rename_i L hL;split at h
    ·rename_i e p hp;split at h
     ·cases h;exact z5U
     ·split at h
      ·cases h;exact(z6W (z3F _ _ _ _ _ (by simp) hL).1 _ _).1 _ _ _ _ hp
      ·cases h;exact z5U
    ·cases h;exact z5U
    ·cases h
theorem zgs(m:Nat):TxOk m []:=⟨by simp,fun h=>absurd rfl h,fun h=>absurd rfl h⟩
theorem zg0{l:zB}{a:Nat}{q:Pc}{z:Nat}(h:z0l l a=some (q,z)):PcOk q:=by
 cases l with
 |nil=>cases h
 |cons b r=>
  rw[z0l]at h;split at h
  ·split at h
   ·cases h
   ·cases h;exact⟨.inl rfl,fun h=>by simp at h,fun _=>rfl⟩
  split at h
  ·split at h
   ·cases h;exact⟨.inr (.inr (.inl rfl)),fun h=>by simp at h,fun h=>by simp at h⟩
   ·cases h
  split at h
  ·split at h
   ·cases h;exact⟨.inr (.inl rfl),fun _=>rfl,fun h=>by simp at h⟩
   ·cases h
  split at h
  ·cases h
  ·cases h;exact⟨.inr (.inr (.inr rfl)),fun h=>by simp at h,fun h=>by simp at h⟩
theorem zom(L:List Pc)(q:Pc):qcR (L++[q])=qcR L++[qcR1 q]:=by unfold qcR;rw[List.map_append];rfl
def z6S(a c:Int):TV:=.tuple [.agg zH,I a,I c]
def zf4(L:List Pc)(sz:Nat)(e:V)(q:Nat)(b:Int):TV:=
 if 0≤b then z6S b 50 else if q<L.length then z6S ((pkP L sz q).p:Int) 50 else if z15 e then .tuple [tv e,I 0,I 0] else z6S 0 51
theorem z6d(g:Sh.Glob)(s:zB)(hs:s.length≤200)(X:Lx)(f:Nat)(hX:z10 f s 0 []=some X)(Q:TV)(hbad:∀a,X=.bad a→Q=z6S (a:Int) 50)
  (hok:∀L,X=.ok L→∃e q b F,mE L s.length F 1 0 (-1)=some (e,q,b)∧(b<0→ESmall e)∧Q=zf4 L s.length e q b):zC g 87 [S (str s)] [] Q []:=by
 have d0:¬(200:Int)<(s.length:Int):=by omega
 have e0:=bS [];refine z27 tf_146 ?_;simp only[vW,seval,d0,e0];refine zk (σ:={x:Nat×List Pc // x.1≤s.length∧(∃f,z10 f (s.drop x.1) x.1 x.2=some X)∧(∀q∈x.2,PcOk q)∧x.2.length≤x.1}) (fun x=>⟨[(0,S (str s)),(2,.ptr 2 0),(5,.ptr 17 0),(6,I (x.1.1:Int))],[(2,[I 0,I 0,S (str []),.pv (.v (.slice none 0 0))]),(17,[.own 3000 4 (qcR x.1.2),I 0,I (s.length:Int),I (-1)])],[(3000,(193,4,x.1.2.length))],[]⟩) (fun x=>s.length-x.1.1) ⟨(0,[]),Nat.zero_le _,⟨f,hX⟩,by simp,Nat.le_refl _⟩ ?_ ?_
 ·refine ES.Lw.trans ?_ (show ES.Lw ⟨[(0,S (str s)),(2,.ptr 2 0),(5,.ptr 17 0),(6,I 0)],[(2,[I 0,I 0,S (str []),.pv (.v (.slice none 0 0))]),(17,[.pv (.v (.slice none 0 0)),.pv (.v (.int .i64 0)),.pv (.v (.int .i64 (s.length:Int))),.pv (.v (.int .i64 (-1)))])],[],[]⟩ _ by apply z0e<;>simp[leL,lk,sv,Nat.beq,I,S,ES.kill,has,drp,zn,e0]);refine ES.Lw.trans ?_ (z5k (x:=17) (j:=0) (d:=3000) (e:=193) (W:=4) (.inr (by decide)) (by decide) rfl (by simp only[vcA,seval]) rfl);exact z18 rfl
 clear hX;rintro⟨⟨i,acc⟩,hi,⟨f,hX⟩,hA,hal⟩
 dsimp only at hi hX hA hal
 by_cases hlt:i<s.length
 ·have d1:(i:Int)<(s.length:Int):=by omega
  obtain⟨b,eb⟩:∃b,s[i]?=some b:=⟨_,gE hlt⟩
  have hdr:s.drop i=b::s.drop (i+1):=by rw[List.drop_eq_getElem_cons hlt];congr 1;rw[gE hlt]at eb;exact Option.some.inj eb
  have w1:=wS i;have hbl:=b.toNat_lt;cases f with
  |zero=>cases hX
  |succ f=>
   by_cases h32:b=32
   ·subst h32;rw[hdr,z10]at hX;simp only[if_true]at hX;simp only[vW,seval,d1,eb,w1];refine zc ⟨(i+1,acc),hlt,⟨f,hX⟩,hA,by dsimp only;omega⟩ (by show s.length-(i+1)<s.length-i;omega) ?_;exact lwA
   have t32:¬(b.toNat:Int)=32:=zaC b 32 h32;have HN:=zjL g s i (by omega) hlt;have hX':(match z0l (s.drop i) i with|none=>some (.bad i)|some (q,z)=>z10 f ((s.drop i).drop z) (i+z) (acc++[q]))=some X:=by
    rw[hdr,z10]at hX;simp only[h32,if_false]at hX;rw[hdr];exact hX
   cases hr:z0l (s.drop i) i with
   |none=>
    rw[hr]at hX' HN;obtain⟨k,n,t,HN⟩:=HN;cases hX';rw[hbad i rfl];unfold z6S zH;simp only[vW,seval,d1,eb,t32];refine z7 HN ?_;simp only[vW,seval,e0];try rfl
   |some x=>
    obtain⟨q,z⟩:=x;rw[hr]at hX' HN
    dsimp only at hX'
    have hz:=z92 (b:=b) (r:=s.drop (i+1)) (by rw[←hdr];exact hr);have hzl:i+z≤s.length:=by have:=hz.2.1;simp only[List.length_cons,List.length_drop]at this;omega
    have hz0:¬((i+z:Nat):Int)=0:=by omega
    have HN:zC g 107 [S (str s),I (i:Int)] [] (.tuple [qcT q,I ((i+z:Nat):Int)]) []:=HN;unfold qcT at HN;have hlen:=zjF acc;rw[List.drop_drop]at hX';simp only[vW,seval,d1,eb,t32];refine z7 HN ?_;simp only[vW,seval,hz0,hlen];refine⟨⟨by omega,by unfold maxLen;omega⟩,zc ⟨(i+z,acc++[q]),hzl,⟨f,hX'⟩,fun y hy=> ?_,by simp;omega⟩ (by show s.length-(i+z)<s.length-i;omega) ?_⟩
    ·rcases List.mem_append.1 hy with hy|hy
     ·exact hA y hy
     ·obtain rfl:=List.mem_singleton.1 hy;exact zg0 hr
    ·simp only[zom];apply z0e<;>simp[leL,lk,sv,Nat.beq,I,S,ES.kill,has,drp,zn,qcR1,List.length_append,List.length_singleton]
 ·have d1:¬(i:Int)<(s.length:Int):=by omega
  have hXa:X=.ok acc:=by
   cases f with
   |zero=>cases hX
   |succ f=>
    rw[List.drop_eq_nil_of_le (by omega),z10]at hX;cases hX;rfl
  obtain⟨e,q,b,F,hm,hsm,hQ⟩:=hok acc hXa;have hL:PcL acc:=⟨hA,by omega⟩
  have HE:=(zs0 (g:=g) (sz:=s.length) hL F).1 F (Nat.le_refl _) 1 0 (-1) _ hm;have HF:=zb2 (sz:=s.length) g hL q b
  dsimp only at HE
  rw[hQ];unfold zf4 z6S;clear hQ;unfold PB at HE HF;by_cases hb:0≤b
  ·rw[if_pos hb];have nb:¬b<0:=by omega
   unfold zH;simp only[vW,seval,d1];refine z7 HE ?_;simp only[vW,seval,nb,hb,e0];try rfl
  rw[if_neg hb];have nb:b<0:=by omega
  by_cases hq:q<acc.length
  ·rw[if_pos hq];have d2:(q:Int)<(acc.length:Int):=by omega
   have hfb:z3x acc s.length q b=((pkP acc s.length q).p:Int):=by unfold z3x;rw[if_pos nb]
   rw[hfb]at HF;generalize(pkP acc s.length q).p=fp at*;unfold zH;simp only[vW,seval,d1];refine z7 HE ?_;simp only[vW,seval,nb,hb,e0,qcV,d2];refine z7 HF ?_;simp only[vW,seval,e0];try rfl
  rw[if_neg hq];have d2:¬(q:Int)<(acc.length:Int):=by omega
  have HR:=z96 g e (hsm nb);unfold B at HR;cases hre:z15 e
  ·rw[hre]at HR;unfold zH;simp only[Bool.false_eq_true,if_false];simp only[vW,seval,d1];refine z7 HE ?_;simp only[vW,seval,nb,hb,e0,qcV,d2];refine z7 HR ?_;simp only[vW,seval,e0];try rfl
  ·rw[hre]at HR;simp only[if_true];simp only[vW,seval,d1];refine z7 HE ?_;simp only[vW,seval,nb,hb,e0,qcV,d2];refine z7 HR ?_;simp only[vW,seval,e0];try rfl
end
end Go.Proofs.YtpmlapgbmgbilaaGreatDoor
end
