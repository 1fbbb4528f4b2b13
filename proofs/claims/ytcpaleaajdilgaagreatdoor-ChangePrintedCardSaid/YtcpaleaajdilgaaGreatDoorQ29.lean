/- Merged texts: PFits Pk1 Wire1 Wire2 Wire3 Wire4. No statement of the program is proved here. -/
import Derived.Test.YtcpaleaajdilgaaGreatDoorQ19
import Derived.RangeFuncNested
import Derived.RangeFuncBound
import Derived.RangeFuncLeaves
import Derived.RangeFuncBox
import Derived.Shelf.Abstract
import Derived.Shelf.RegionOpen
import Derived.OwnWalkIn
import Derived.TacticsInMore
import Derived.LoopNIn
import Derived.LoopIn
import Derived.Maps.AppendAt
import Derived.LaidEql
import Derived.Stop.Asserts
import Derived.RowKitTokens
set_option linter.unusedSimpArgs false
set_option linter.unusedVariables false
set_option maxRecDepth 100000
set_option maxHeartbeats 8000000
section
namespace Go.Mor
open Go
section
open Go.RowKit
theorem zhb:∀(fs:List Fld) (vs:List V) (k:Nat),(∀(i:Nat) f v,fs[i]?=some f→vs[i]?=some v→zD v f.t=true)→z2w k fs vs=(0,0):=by
 intro fs
 induction fs with
 |nil=>grind [z2w]
 |cons f r ih=>
  intro vs k h;cases vs with
  |nil=>simp[z2w]
  |cons v q=>
   rw[z2w,if_pos (h 0 f v rfl rfl)];exact ih q (k+1) fun i f v hf hv=>h (i+1) f v (by grind) (by grind)
theorem zl9{c:Cls}{vs:List V}(hc:zn c=true)(hl:vs.length=c.fs.length)(h:∀(i:Nat) f v,c.fs[i]?=some f→vs[i]?=some v→zD v f.t=true):z1Z c vs=(0,0):=by
 simp only[z1Z,hc,Bool.not_true,Bool.false_eq_true,if_false,hl,ne_eq,not_true_eq_false]
 grind [zhb]
theorem zhq(t:Ty)(n many:Int)(ht:zg t=true)(hm:many≤100000):zD (z33 t n many) t=true∧(z33 t n many).s.length≤60∧∀y∈(z33 t n many).l,y.s.length≤60:=by
 obtain⟨k,o⟩:=t;by_cases h5:k=5
 ·subst h5;have ho:1≤o∧o≤4:=by grind [zg]
  have hp:=zF n 4 (by omega);have hall:∀y∈(List.range (pick n 4).toNat).map (fun i:Nat=>z1g o (n.tdiv 4+(i:Int)) many),z2T y=false∧z0L y o=true∧y.s.length≤60:=by
   grind [zcN,z2T]
  have e:z33 ⟨5,o⟩ n many=.mk 5 0 [] ((List.range (pick n 4).toNat).map (fun i:Nat=>z1g o (n.tdiv 4+(i:Int)) many)):=if_pos rfl;rw[e];refine⟨?_,by simp[V.s],fun y hy=>(hall y hy).2.2⟩;simp only[zD,Bool.and_eq_true];refine⟨⟨⟨?_,ht⟩,by simp[z0L,V.k]⟩,?_⟩
  ·simp only[z14,V.k,V.n,V.s,V.l,if_true,Bool.and_eq_true,Bool.not_eq_true',List.any_eq_false]
   grind
  ·simp only[V.l,Bool.not_eq_true',List.any_eq_false]
   grind
 ·have hk:1≤k∧k≤4:=by simp[zg,h5]at ht;omega
  obtain⟨h1,h2,h3,h4,h6⟩:=zcN k n many hk hm;have e:z33 ⟨k,o⟩ n many=z1g k n many:=if_neg h5;rw[e];refine⟨?_,h6,by rw[h2];intro y hy;cases hy⟩;simp only[zD,z14,if_neg h4,h1,ht,h3,h2];simp
theorem zcu(t:Ty)(ht:zg t=true):zD (z5t t) t=true:=by
 obtain⟨k,o⟩:=t;by_cases h5:k=5
 ·subst h5;simp[z5t,ht,zD,z14,z0L,V.k,V.n,V.s,V.l]
 ·have hk:(1≤k∧k≤4)∧o=0:=by simp[zg,h5]at ht;omega
  obtain⟨hk,rfl⟩:=hk;have:k=1∨k=2∨k=3∨k=4:=by omega
  rcases this with rfl|rfl|rfl|rfl<;>rfl
def other:zB:=[111,116,104,101,114]
end
structure Chg where
 k:Int
 f:zB
 n:zB
 m:zB
 t:Ty
 x:zB
 o:zB
def rdV(s:zB):V×Int×Int:=(z1W 1000 s).getD (V.nil,0,50)
structure Nd where
 f:Bool
 n:Bool
 m:Bool
 t:Bool
 x:Bool
 o:Bool
 ok:Bool
def z0H(k:Int):Nd:=
 if k=1 then⟨false,true,false,true,true,false,true⟩
 else if k=2∨k=6 then⟨true,false,false,false,false,false,true⟩
 else if k=3 then⟨true,true,false,false,false,false,true⟩
 else if k=4 then⟨true,false,false,true,true,false,true⟩
 else if k=5 then⟨true,true,true,true,true,true,true⟩
 else⟨false,false,false,false,false,false,false⟩
def z1A(s:zB)(b:Bool):Bool:=if b then zb s else s==[]
def z2F(s:zB)(b:Bool):Bool:=if s==[] then true else if b then decide ((rdV s).2.2=0)else false
def zS(h:Chg):Bool:=
 (z0H h.k).ok&&z1A h.f (z0H h.k).f&&z1A h.n (z0H h.k).n&&z1A h.m (z0H h.k).m&&(if(z0H h.k).t then zg h.t else z0h h.t ty0)&&z2F h.x (z0H h.k).x&&z2F h.o (z0H h.k).o
inductive Tl where
 |no
 |zero
 |ev (e:V)
def zz(c:Cls)(s:zB)(t:Ty):Tl:=
 if s=[] then .zero else if(rdV s).2.2≠0 then .no else if(z2q c (rdV s).1).2=0∧z0h (z2q c (rdV s).1).1 t=true then .ev (rdV s).1 else .no
def Tl.is:Tl→Bool
 | .no=>false
 |_=>true
def Tl.val(c:Cls)(t:Ty)(vals:List V):Tl→V
 | .no=>V.nil
 | .zero=>z5t t
 | .ev e=>(z4c c vals e).1
def z0M(fs:List Fld)(s:zB):Bool:= !decide (fieldAt fs s<0)
def z32(fs:List Fld)(s but:zB):Bool:=decide (fieldAt fs s<0)||s==but
def atV(fs:List Fld)(s:zB):Nat:=(fieldAt fs s).toNat
def z4e:Fld:=⟨[],ty0,false⟩
def z0z(c:Cls)(h:Chg):Bool:=
 if h.k=1 then decide (c.fs.length<8)&&z32 c.fs h.n []&&(zz c h.x h.t).is
 else if h.k=2 then z0M c.fs h.f
 else if h.k=3 then z0M c.fs h.f&&z32 c.fs h.n []
 else if h.k=4 then z0M c.fs h.f&&(zz c h.x h.t).is
 else if h.k=5 then z0M c.fs h.f&&decide (c.fs.length<8)&& !(h.n==h.m)&&z32 c.fs h.n h.f&&z32 c.fs h.m h.f&&(zz c h.x h.t).is&&(zz c h.o h.t).is
 else z0M c.fs h.f&&decide ((c.fs.getD (atV c.fs h.f) z4e).t.k≤3)
def z16{α:Type}(l:List α)(i:Nat)(xs:List α):List α:=l.take i++xs++l.drop (i+1)
def z1a(c:Cls)(h:Chg):List Fld:=
 let i:=atV c.fs h.f
 let f:=c.fs.getD i z4e
 if h.k=1 then c.fs++[⟨h.n,h.t,false⟩]
 else if h.k=2 then z16 c.fs i []
 else if h.k=3 then z16 c.fs i [⟨h.n,f.t,f.ix⟩]
 else if h.k=4 then z16 c.fs i [⟨f.n,h.t,false⟩]
 else if h.k=5 then z16 c.fs i [⟨h.n,h.t,false⟩,⟨h.m,h.t,false⟩]
 else z16 c.fs i [⟨f.n,f.t, !f.ix⟩]
def z23(c:Cls)(h:Chg)(vals:List V):List V:=
 let i:=atV c.fs h.f
 let a:=(zz c h.x h.t).val c h.t vals
 let b:=(zz c h.o h.t).val c h.t vals
 if h.k=1 then vals++[a]
 else if h.k=2 then z16 vals i []
 else if h.k=4 then z16 vals i [a]
 else if h.k=5 then z16 vals i [a,b]
 else vals
def okV(c:Cls)(h:Chg):Bool:=zn c&&zS h&&z0z c h
def z2t(c:Cls)(h:Chg):Cls×Int:=if !zn c then(⟨[],[]⟩,40)else if !okV c h then(⟨[],[]⟩,70)else(⟨c.n,z1a c h⟩,0)
def z3x(c:Cls)(h:Chg)(vals:List V):List V×Int:=if(z1Z c vals).2≠0 then([],(z1Z c vals).2)else if !okV c h then([],70)else(z23 c h vals,0)
end Go.Mor
end

section
namespace Go.Proofs.YtcpaleaajdilgaaGreatDoor
open Go Go.RowKit Go.Mor
section
open Go.Shelf
attribute [local go_sem] Oper.semAt_some
theorem zhx(F:Fence)(n:Nat)(h6:F.fn 181)(hro:F.round=none)(hn:1≤n)(l Bn:Nat)(x:Int)(hx0: -9223372036854775808≤x)(hx1:x≤9223372036854775807)(Kp:World→World→Prop)(J Jx:zB→World→Prop)
  (hY:∀pre (g:UInt8) W,J pre W→pre.length<10→YieldAt F (n-1) Tryz.prog l #[.int .u8 g.toNat] W fun e W'=>
   (e=.returned (.bool true)∧J (pre++[g]) W'∧Kp W W')∨(e=.returned (.bool false)∧Jx (pre++[g]) W'))
  (W:World) (hBn:W.cell? ⟨Bn,0,none⟩=some (.int .i64 x)) (h0:J [] W):
  CallsIn F n Tryz.prog 181 #[.func (.yield l) #[] #[],.pointer (some ⟨Bn,0,none⟩)] W fun e W'=>(∃v,e=.returned v)∧
   ((∃ys,ys=z4f x∧J ys W')∨(∃pre,True∧Jx pre W')):=by
 refine callsIn_of_wp Tryz.func181 rfl h6 ?_ hro;simp only[Tryz.ntmps181,List.size_toArray,List.length_cons,List.length_nil,Nat.reduceAdd,Nat.reduceSub,Array.replicate_succ,Array.replicate_zero,List.push_toArray,List.append_toArray,List.nil_append,List.cons_append];obtain⟨fn,tmps,assign,body,hy,hR⟩:=hY [] (UInt8.ofNat (mag x%64*2+sgn x)) W h0 (by simp);by_cases hneg:x<0;all_goals
  first|rw[zjh x hneg]at hy|rw[zji x hneg]at hy
  have HY:=Lib.hid hY;clear hY
  gi_wp2
  refine hR.mono ?_;clear hR hy;rintro e W1 (⟨rfl,hJ1,_⟩|⟨rfl,hx1⟩)
  ·gi_wp2
   gi_loopw [3] (fun p wr=>∃(pre:zB) (m f:Nat),p=.int .u64 m∧Hid (z4f x=pre++z18 f m)∧Hid (m<128 ^ f)∧m<9223372036854775808∧Hid (pre.length+f=10)∧J pre wr)
    (fun p _=>(intOf p).toNat)
   case atStart=>
    have hml:=zps x hx0 hx1;have hme:=zjA x;refine⟨[UInt8.ofNat (mag x%64*2+sgn x)],mag x / 64,9,?_,rfl,?_,by omega,rfl,hJ1⟩
    ·congr 1;split at hme<;>omega
    ·show _<9223372036854775808;omega
   case round=>
    obtain⟨pre,m,f,rfl,hg,hlt,hm,hl,hJs⟩:=hrel;by_cases hm0:m=0
    ·subst hm0
     gi_wp2
     go_end0
     exact⟨⟨_,rfl⟩,.inl ⟨pre,by rw[hg.out,z7L];simp,hJs⟩⟩
    ·have hne:((m:Int)==0)=false:=by simpa using hm0
     have hne':((m:Int) !=0)=true:=by simpa using hm0
     cases f with
     |zero=>exact absurd hlt.out (by simp;omega)
     |succ f=>
     obtain⟨fn,tmps,assign,body,hy,hR⟩:=HY.out pre (UInt8.ofNat (m%128)) wr hJs (by have:=hl.out;omega);rw[zjF]at hy
     gi_wp2
     refine hR.mono ?_;clear hR hy;rintro e W3 (⟨rfl,hJ3,_⟩|⟨rfl,hJx3⟩)
     ·gi_wp2
      go_roundw
      case rel=>
       refine⟨pre++[UInt8.ofNat (m%128)],m / 128,f,by simp,?_,?_,by omega,?_,hJ3⟩
       ·show _=_;rw[hg.out];simp[z18,hm0]
       ·show _<_;have:=hlt.out;rw[Nat.pow_succ]at this;exact Nat.div_lt_of_lt_mul (by rw[Nat.mul_comm];exact this)
       ·show _=_;have:=hl.out;simp;omega
      case measure=>simp[intOf];omega
     ·gi_wp2
      refine bodyPost_ret (results_none rfl _ _ _) rfl ?_;exact⟨⟨_,rfl⟩,.inr ⟨_,trivial,hJx3⟩⟩
  ·gi_wp2
   refine bodyPost_ret (results_none rfl _ _ _) rfl ?_;exact⟨⟨_,rfl⟩,.inr ⟨_,trivial,hx1⟩⟩
theorem zjn(F:Fence)(n:Nat)(h5:F.fn 123)(hro:F.round=none)(x:Int)(w:World):
  CallsIn F n Tryz.prog 123 #[.int .i64 x] w fun e w'=>e=.returned (.func (.func 181) #[] #[.pointer (some ⟨w.heap.size,0,none⟩)])∧w'=w.alloc (.cells #[.int .i64 x] 3):=by
 refine callsIn_of_wp Tryz.func123 rfl h5 ?_ hro;simp only[Tryz.ntmps123,List.size_toArray,List.length_cons,List.length_nil,Nat.reduceAdd,Nat.reduceSub,Array.replicate_succ,Array.replicate_zero,List.push_toArray,List.append_toArray,List.nil_append,List.cons_append]
 gi_wp2
 go_ret
 exact⟨rfl,rfl⟩
theorem zec(F:Fence)(n:Nat)(Kp:World→World→Prop)(h6:F.fn 181)(hro:F.round=none)(hn:1≤n)(Bn:Nat)(x:Int)(hx0: -9223372036854775808≤x)(hx1:x≤9223372036854775807)(w:World)(hBn:Bn<w.heap.size)
  (hc:w.cell? ⟨Bn,0,none⟩=some (.int .i64 x)):
  SeqStopsK F n Tryz.prog 181 #[.pointer (some ⟨Bn,0,none⟩)] (fun g:UInt8=> #[Value.int .u8 g.toNat]) Kp (fun ys=>ys=z4f x) (fun _=>True) 10 w:=fun l J Jx W hW _ _ hY h0=>
 zhx F n h6 hro hn l Bn x hx0 hx1 Kp J Jx hY W ((hW.cell (p:=⟨Bn,0,none⟩) hBn).trans hc) h0
attribute [local go_sem] Oper.semAt_some
def u8(b:UInt8):Value:=.int .u8 b.toNat
theorem zlf{P:Program}{W:World}{base src dst e:Nat}{v:Value}{l:zB}(hs:P.underlying src=some (.slice e))(he:P.underlying e=some (.int .u8))(hd:P.underlying dst=some .string)
  (h:W.ownsRow base e 1 v l.length (l.map u8)):(convert src dst v).run P W=.ok (.string (str l)) W:=by
 have h':=h;rcases h.2 with⟨rfl,h0⟩|⟨g,cap,cur,rfl,_,_,_⟩
 ·obtain rfl:l=[]:=List.eq_nil_of_length_eq_zero h0;exact run_convert_bytes_nil W src e hs he 0 0 dst hd
 ·refine run_convert_bytes_back W src dst e ⟨g,0,none⟩ cap l hs he hd (fun j hj=> ?_);exact h'.cells (g:=g) rfl j _ (by simp[u8,gE hj])
theorem zpl:(Tryz.prog.info? 5).map (fun i=>(i.zero,i.size,i.bytes))=some (some (.int .u8 0),1,1):=by kernel_rfl
theorem zpt(w:World):(Instr.makeSlice 98 (.int .i64 0) (.int .i64 10)).run Tryz.prog w=.ok (.slice (some ⟨w.heap.size,0,none⟩) 0 10) (w.alloc (.cells (Array.replicate 10 (.int .u8 0)) 5)):=by kernel_rfl
theorem zoG(F:Fence)(n:Nat)(h3:F.fn 64)(h4:F.fn 123)(h5:F.fn 181)(hro:F.round=none)(hn:3≤n)(x:Int)(hx0: -9223372036854775808≤x)(hx1:x≤9223372036854775807)(w:World):
  CallsIn F n Tryz.prog 64 #[.int .i64 x] w fun e W'=>e=.returned (.string (str (num x)))∧Below w.heap.size w W':=by
 have h1:1≤n:=by omega
 obtain⟨i0,hi,hz0,hz1,hz2⟩:=info_parts zpl;have hmk:=zpt;refine callsIn_of_wp_marks Tryz.func64 rfl h3 ?_ hro;simp only[Tryz.ntmps64,List.size_toArray,List.length_cons,List.length_nil,Nat.reduceAdd,Nat.reduceSub,Array.replicate_succ,Array.replicate_zero,List.push_toArray,List.append_toArray,List.nil_append,List.cons_append]
 gi_wp2_with (gi_at_call 123;refine(zjn F (n-1) h4 hro _ _).mono ?_;rintro e w' ⟨rfl,rfl⟩)
 have bL0:=Boxed.new (w.alloc (.cells (Array.replicate 10 (.int .u8 0)) 5)) 98 (.slice (some ⟨w.heap.size,0,none⟩) 0 10);rw[World.size_alloc]at bL0;have bL:=bL0.alloc (.cells #[.int .i64 x] 3);have bN:=Boxed.new ((w.alloc (.cells (Array.replicate 10 (.int .u8 0)) 5)).alloc (.cells #[.slice (some ⟨w.heap.size,0,none⟩) 0 10] 98)) 3 (.int .i64 x);rw[World.size_alloc,World.size_alloc]at bN;have hB0:Below w.heap.size w (((w.alloc (.cells (Array.replicate 10 (.int .u8 0)) 5)).alloc (.cells #[.slice (some ⟨w.heap.size,0,none⟩) 0 10] 98)).alloc (.cells #[.int .i64 x] 3)):=
  (((Below.refl _ w).alloc (Nat.le_refl _) _).alloc (by simp) _).alloc (by simp;omega) _
 have hrow0:(((w.alloc (.cells (Array.replicate 10 (.int .u8 0)) 5)).alloc (.cells #[.slice (some ⟨w.heap.size,0,none⟩) 0 10] 98)).alloc (.cells #[.int .i64 x] 3)).ownsRow w.heap.size 5 1 (.slice (some ⟨w.heap.size,0,none⟩) 0 10) 0 []:=
  ((World.ownsRow_made w (Array.replicate 10 (.int .u8 0)) 10 (Nat.le_refl _) (by decide) (by simp)).alloc _).alloc _
 refine wpIn_rangeFunc_ownG hro h1 (gf:=181) (lb:= #[.pointer (some ⟨w.heap.size+1+1,0,none⟩)]) rfl h5 (enters_of Tryz.func181 (by kernel_rfl) rfl)
  (zec F (n-1) (Below w.heap.size) h5 hro (by omega) (w.heap.size+1+1) x hx0 hx1 _ (by simp) bN.cell) belowK_t (belowK_b (by simp;omega)) (Below.refl _ _) (fun _=>rfl)
  (fun pre W=>(∃v,Boxed W (w.heap.size+1) 98 v∧W.ownsRow w.heap.size 5 1 v (z4k pre).length ((z4k pre).map u8)∧v≠ .slice none 0 0)∧Below w.heap.size w W)
  (fun _ _ _=>False)
  (OwnFrom.and (Own.from (holdsRow_own w.heap.size (w.heap.size+1) 98 5 1 (fun pre=>(z4k pre).length) (fun pre=>(z4k pre).map u8) (fun _ v=>v≠ .slice none 0 0)) _) (ownFrom_below (Nat.le_refl _) (by simp;omega)))
  (fun _ _ _ _ _ hs _ _=>hs)
  ⟨⟨_,bL,hrow0,by simp⟩,hB0⟩
  (fun g=>{ tmps:= #[.int .i64 x,undef,.string ⟨#[]⟩,.pointer (some ⟨w.heap.size+1,0,none⟩),.int .u8 g.toNat,undef,.slice (some ⟨w.heap.size,0,none⟩) 0 10,.int .i64 x,.func (.func 181) #[] #[.pointer (some ⟨w.heap.size+1+1,0,none⟩)],.int .u8 g.toNat,undef,undef,undef,undef,undef,undef,undef,undef,undef,undef,undef,undef,undef,undef,undef,undef,undef],defers:=[] }) ?assign ?body ?done ?stop
 case assign=>
  intro l x W K hK
  gi_wp2
  exact hK
 case body=>
  rintro l pre g W ⟨⟨v,hv,hrow,hnil⟩,hB⟩ hlt;have hc:=hv.cell;have hpl:(z4k pre).length=pre.length:=z4Q pre;obtain⟨P0,hP0⟩:∃P0,z4k pre=P0:=⟨_,rfl⟩
  have HP:=Lib.hid hP0;rw[hP0]at hrow hpl;clear hP0;rcases hrow.2 with⟨rfl,_⟩|⟨gg,cap,cur,rfl,_,_,hcap,hcap2,_⟩
  ·exact absurd rfl hnil
  have hk:P0.length≤10:=by omega
  clear hpl hmk hx0 hx1 hlt;by_cases hl:P0=[]
  ·subst hl;simp only[List.length_nil,List.map_nil]at hrow
   gi_wp2_with (gi_at_builtin;refine wpListIn_append_own _ rfl _ _ 98 rfl w.heap.size 5 i0 (.int .u8 0) 1 1 Tryz.underlying98 hi hz0 hz1 hz2 rfl (by decide) _ _ _ rfl (hrow.alloc _) ⟨W.heap.size,0,none⟩ 1 1 [.int .u8 g.toNat] rfl rfl (cell_one_new _ _ _) (by simp[Value.oneCell']) (by decide) (by omega) (by have:=hB.size;simp;omega) ?_;intro v' w1 hown' hgrow _;obtain⟨g',cap',rfl⟩:=ownsRow_succ hown';obtain⟨hv1,hv2,hr2,hk2,hb2⟩:=hv.appended (by decide) hrow hB.size (by omega) hown' hgrow;have hc1:=hv1.cell;have hf1:=hv1.frozen)
   exact⟨hk2.from _,hb2,⟨_,hv2,by rw[z8A,HP.out,zkY];exact hr2,by simp⟩,hB.trans hb2⟩
  ·obtain⟨Q,b,rfl⟩:=zoo P0 hl;have hcell:=hrow.cellAt Q.length (by simp);have hfz:=hrow.frozenAt Q.length;have hst:=hrow.stored Q.length (.int .u8 (((b.toNat:Int)+128)%256));have hle:w.heap.size≤gg:=by rcases hrow.2 with⟨h,_⟩|⟨g2,c2,cur2,h,hb2,_⟩;cases h;cases h;exact hb2
   have hne:=hv.not_row (by decide) hrow;simp only[List.length_append,List.length_cons,List.length_nil,Nat.zero_add,List.map_append,List.map_cons,List.map_nil]at hrow hcell hst hcap hk hv hc hne ⊢;rw[List.set_append_right _ _ (by simp)]at hst;simp only[List.length_map,Nat.sub_self,List.set_cons_zero]at hst;simp[u8]at hcell;obtain⟨hst1,hst2⟩:=hst;have hst3:=Lib.hid hst1;have hv':=hv.kept hst2 (by simpa [Value.ownBlock]using hne);have hcW:=hv'.cell;have hKO:KeepsOthers W (W.setCell ⟨gg,Q.length,none⟩ (.int .u8 (((b.toNat:Int)+128)%256))):=KeepsOthers.setCell _ _ _;have hBW:=(Below.refl w.heap.size W).setCell (p:=⟨gg,Q.length,none⟩) hle (.int .u8 (((b.toNat:Int)+128)%256));clear hst1 hst2 hrow hne hcap hcap2
   gi_wp2_with (gi_at_builtin;go_must (refine wpListIn_append_own _ rfl _ _ 98 rfl w.heap.size 5 i0 (.int .u8 0) 1 1 Tryz.underlying98 hi hz0 hz1 hz2 rfl (by decide) _ _ _ rfl (hst3.out.alloc _) ⟨W.heap.size,0,none⟩ 1 1 [.int .u8 g.toNat] rfl rfl (by have:=cell_one_new (W.setCell ⟨gg,Q.length,none⟩ (.int .u8 (((b.toNat:Int)+128)%256))) (.int .u8 g.toNat) 5;rwa [World.size_setCell]at this) (by simp[Value.oneCell']) (by unfold maxLen;omega) (by omega) (by have:=hB.size;simp;omega) ?_;intro v' w1 hown' hgrow _;obtain⟨g',cap',rfl⟩:=ownsRow_succ hown';obtain⟨hv1,hv2,hr2,hk2,hb2⟩:=hv'.appended (by decide) hst3.out (by have:=hB.size;simp;omega) (by omega) hown' hgrow;have hc1:=hv1.cell;have hf1:=hv1.frozen))
   exact⟨(hKO.trans hk2).from _,hBW.trans hb2,⟨_,hv2,by rw[z8A,HP.out,zci];simpa [u8,zoL]using hr2,by simp⟩,hB.trans (hBW.trans hb2)⟩
 case done=>
  rintro D ys W hD rfl ⟨⟨v,hv,hrow,hnil⟩,hB⟩ hK;have hc:=hv.cell;have hcv:=zlf (P:=Tryz.prog) Tryz.underlying98 Tryz.underlying5 Tryz.underlying9 hrow
  gi_wp2
  refine⟨by simp,.inl ⟨_,_,rfl,run_takeDeferred hK,?_⟩⟩;exact⟨_,results_tmp rfl _ _ _,rfl,hB.trans (belowK_b (w:=w) (Nat.le_refl _) W D _ _ (by simp at hD;omega) hK rfl rfl)⟩
 case stop=>
  rintro D c pre W _ _ h _;exact h.elim
theorem zfW(x:Int)(hx0: -9223372036854775808≤x)(hx1:x≤9223372036854775807)(w:World):
  Calls Tryz.prog 64 #[.int .i64 x] w fun e W'=>e=.returned (.string (str (num x)))∧Below w.heap.size w W':=
 (callsIn_wide (n:=3)).1 (zoG Fence.wide 3 trivial trivial trivial rfl (by omega) x hx0 hx1 w)
end
section
open Go.Stop Go.Extern
structure Glob(w:World)(a0 a1:Addr):Prop extends GlobU w where
 e0:w.cell? ⟨2,0,none⟩=some (.iface 352 (.pointer (some a0)))
 e1:w.cell? ⟨3,0,none⟩=some (.iface 352 (.pointer (some a1)))
 ne:a0≠a1
 b0:∃ca ta,w.heap[a0.block]?=some (.cells ca ta (0,0))
 b1:∃ca ta,w.heap[a1.block]?=some (.cells ca ta (0,0))
theorem z1R{w:World}{b:Nat}{o:Obj}(h:w.heap[b]?=some o):b<w.heap.size:=(gA h).1
theorem Glob.ext{w w':World}{a0 a1:Addr}(h:Glob w a0 a1)(hb:Below w.heap.size w w'):Glob w' a0 a1 where
 toGlobU:=h.toGlobU.ext hb
 e0:=(hb.cell (z0f h.e0)).trans h.e0
 e1:=(hb.cell (z0f h.e1)).trans h.e1
 ne:=h.ne
 b0:=by obtain⟨ca,ta,h0⟩:=h.b0;exact⟨ca,ta,(hb.block _ (z1R h0)).trans h0⟩
 b1:=by obtain⟨ca,ta,h0⟩:=h.b1;exact⟨ca,ta,(hb.block _ (z1R h0)).trans h0⟩
theorem zei(v:Value)(w:World):(callFunc 278 #[.iface 352 v]).run Tryz.prog w=.ok (.value (.iface 334 (.agg #[.pointer (some ⟨10,352,none⟩)]))) w:=by kernel_rfl
theorem z8k(w:World):(callFunc 346 #[.agg #[.pointer (some ⟨10,352,none⟩)]]).run Tryz.prog w=.ok (.value (.bool true)) w:=by kernel_rfl
theorem zjt:(Tryz.prog.info? 352).map (·.comparable)=some true:=by kernel_rfl
theorem zjv:(Tryz.prog.info? 354).map (·.size)=some 1:=by kernel_rfl
theorem zqu(v:Value)(xT:TypeId)(w:World):(Instr.typeAssert (.iface 352 v) xT 336 true).run Tryz.prog w=.ok (.tuple #[.nilIface,.bool false]) w:=run_typeAssert_lacksB Tryz.underlying336 (by kernel_rfl) (by kernel_rfl) v xT w
theorem zjO(v:Value)(xT:TypeId)(w:World):(Instr.typeAssert (.iface 352 v) xT 338 true).run Tryz.prog w=.ok (.tuple #[.nilIface,.bool false]) w:=run_typeAssert_lacksB Tryz.underlying338 (by kernel_rfl) (by kernel_rfl) v xT w
theorem zhL(v:Value)(xT:TypeId)(w:World):(Instr.typeAssert (.iface 352 v) xT 340 true).run Tryz.prog w=.ok (.tuple #[.nilIface,.bool false]) w:=run_typeAssert_lacksB Tryz.underlying340 (by kernel_rfl) (by kernel_rfl) v xT w
theorem zgl(a:Addr)(w:World):
  Calls Tryz.prog 238 #[.iface 352 (.pointer (some a)),.iface 352 (.pointer (some a))] w fun e w'=>e=.returned (.bool true)∧w=w':=by
 obtain⟨i,hi,hcmp⟩:=gO zjt;obtain⟨j,hj,hjs⟩:=gO zjv;have tT:=zei;have cT:=z8k;have heq:=run_eql_iface_ptr_same (P:=Tryz.prog) w a Tryz.underlying242 Tryz.underlying352 hi hcmp hj
 go_enter Tryz.func238,Tryz.ntmps238
 go_wp2
 refine wp_loop_rounds 1 ?_;rw[rounds_succ]
 go_wp2
 go_ret
 exact⟨rfl,rfl⟩
theorem zjy(b:Addr)(w:World):
  Calls Tryz.prog 238 #[.nilIface,.iface 352 (.pointer (some b))] w fun e w'=>e=.returned (.bool false)∧w=w':=by
 have hn:=run_eql_iface_nil_left (P:=Tryz.prog) w 352 (.pointer (some b)) Tryz.underlying242
 go_enter Tryz.func238,Tryz.ntmps238
 go_wp2
 go_ret
 exact⟨rfl,rfl⟩
theorem zlI(a b:Addr)(ca cb:Array Value)(ta tb:TypeId)(w:World)(hne:a≠b)(ha:w.heap[a.block]?=some (.cells ca ta (0,0)))(hb:w.heap[b.block]?=some (.cells cb tb (0,0))):
  Calls Tryz.prog 238 #[.iface 352 (.pointer (some a)),.iface 352 (.pointer (some b))] w fun e w'=>e=.returned (.bool false)∧w=w':=by
 obtain⟨i,hi,hcmp⟩:=gO zjt;obtain⟨j,hj,hjs⟩:=gO zjv;have tT:=zei;have cT:=z8k;have nE:=zqu;have uE:=zjO;have vE:=zhL;have heq:=run_eql_iface_ptr_other (P:=Tryz.prog) w Tryz.underlying242 Tryz.underlying352 hi hcmp hj (by rw[hjs];decide) hne ha hb
 go_enter Tryz.func238,Tryz.ntmps238
 go_wp2
 refine wp_loop_rounds 1 ?_;rw[rounds_succ]
 go_wp2
 go_ret
 exact⟨rfl,rfl⟩
theorem zd0(w:World)(a0 a1:Addr)(hG:Glob w a0 a1):
  Calls Tryz.prog 183 #[.nilIface] w fun e w'=>e=.returned (.bool false)∧w=w':=by
 have e0:=hG.e0;have e1:=hG.e1;clear hG
 go_enter Tryz.func183,Tryz.ntmps183
 go_wp2_with fail
 refine(zjy _ _).mono ?_;rintro e w' ⟨rfl,rfl⟩
 go_wp2_with fail
 refine(zjy _ _).mono ?_;rintro e w' ⟨rfl,rfl⟩
 go_wp2_with fail
 go_ret
 exact⟨rfl,rfl⟩
theorem zcZ(w:World)(a0 a1:Addr)(hG:Glob w a0 a1):
  Calls Tryz.prog 183 #[.iface 352 (.pointer (some a0))] w fun e w'=>e=.returned (.bool true)∧w=w':=by
 have e0:=hG.e0;have e1:=hG.e1;clear hG
 go_enter Tryz.func183,Tryz.ntmps183
 go_wp2_with fail
 refine(zgl _ _).mono ?_;rintro e w' ⟨rfl,rfl⟩
 go_wp2_with fail
 go_ret
 exact⟨rfl,rfl⟩
theorem zbA(w:World)(a0 a1:Addr)(hG:Glob w a0 a1):
  Calls Tryz.prog 183 #[.iface 352 (.pointer (some a1))] w fun e w'=>e=.returned (.bool true)∧w=w':=by
 have e0:=hG.e0;have e1:=hG.e1;obtain⟨c0,t0,h0⟩:=hG.b0;obtain⟨c1,t1,h1⟩:=hG.b1;have H:=Lib.hid (zlI a1 a0 c1 c0 t1 t0 w hG.ne.symm h1 h0);clear hG h0 h1
 go_enter Tryz.func183,Tryz.ntmps183
 go_wp2_with fail
 refine H.out.mono ?_;rintro e w' ⟨rfl,rfl⟩
 go_wp2_with fail
 refine(zgl _ _).mono ?_;rintro e w' ⟨rfl,rfl⟩
 go_wp2_with fail
 go_ret
 exact⟨rfl,rfl⟩
end
section
open Go.Shelf
attribute [local go_sem] Oper.semAt_some
theorem zqf{a b:Bool}(h:a=b):Ending.returned (.bool a)=.returned (.bool b):=by rw[h]
def z4N(Ba Bt:Nat)(W W':World):Prop:=W'.heap[Ba]?=W.heap[Ba]?∧W'.heap[Bt]?=W.heap[Bt]?
theorem zlz(n:Nat)(l Ba Bt:Nat)(s:zB)(a:Nat)(ha:a≤s.length)(hs:s.length<1125899906842624)(J Jx:List (Mor.Ix×UInt8)→World→Prop)
    (hY:∀pre (g:Mor.Ix×UInt8) W,J pre W→pre.length<s.length→YieldAt Fence.wide (n-1) Tryz.prog l #[.int .i64 g.1.val,.int .u8 g.2.toNat] W fun e W'=>
      (e=.returned (.bool true)∧J (pre++[g]) W'∧z4N Ba Bt W W')∨(e=.returned (.bool false)∧Jx (pre++[g]) W'))
    (W:World) (hBa:W.cell? ⟨Ba,0,none⟩=some (.int .i64 a)) (hBt:W.cell? ⟨Bt,0,none⟩=some (.string (str s))) (hJd:∀pre W,J pre W→J pre W.drew) (h0:J [] W):
    CallsIn Fence.wide n Tryz.prog 277 #[.func (.yield l) #[] #[],.pointer (some ⟨Ba,0,none⟩),.pointer (some ⟨Bt,0,none⟩)] W fun e W'=>(∃v,e=.returned v)∧
      ((∃ys,ys=z2m s a∧J ys W')∨(∃pre,pre<+:z2m s a∧Jx pre W')):=by
  refine callsIn_of_wp Tryz.func277 rfl trivial ?_ rfl
  simp only[Tryz.ntmps277,List.size_toArray,List.length_cons,List.length_nil,Nat.reduceAdd,Nat.reduceSub,Array.replicate_succ,Array.replicate_zero,List.push_toArray,List.append_toArray,List.nil_append,List.cons_append]
  have HY:=Lib.hid hY
  have HJ:=Lib.hid hJd
  clear hY hJd
  gi_wp2
  gi_loopw [4] (fun p wr => ∃ (k : Nat), p = .int .i64 ((a : Int) + k) ∧ a + k ≤ s.length ∧ J ((z2m s a).take k) wr ∧ wr.cell? ⟨Ba, 0, none⟩ = some (.int .i64 a) ∧ wr.cell? ⟨Bt, 0, none⟩ = some (.string (str s)))
        (fun p _=>s.length-(intOf p).toNat)
  case atStart=>exact⟨0,by simp,by omega,by simpa using h0,hBa,hBt⟩
  case round=>
    obtain⟨k,rfl,hk,hJs,hBa,hBt⟩:=hrel
    by_cases hlt2:a+k<s.length
    · obtain⟨fn,tmps,assign,body,hy,hR⟩:=HY.out ((z2m s a).take k) (Fin.ofNat _ k,s[a+k]) wr.drew (HJ.out _ _ hJs) (by rw[List.length_take,z4l];omega)
      have hfin:((Fin.ofNat 1125899906842624 k).val:Int)=k:=by simp[Fin.ofNat];omega
      rw[hfin]at hy
      clear hfin
      have hR':RoundIn Fence.wide (n-1) Tryz.prog l fn tmps assign body wr.drew fun e W'=>∃t,e=.returned (.bool t)∧Hid ((t=true→J ((z2m s a).take k++[(Fin.ofNat _ k,s[a+k])]) W'∧z4N Ba Bt wr.drew W')∧(t=false→Jx ((z2m s a).take k++[(Fin.ofNat _ k,s[a+k])]) W')):=by
        refine hR.mono ?_
        rintro e W' (⟨rfl,h1,h2⟩|⟨rfl,h1⟩)
        · exact⟨true,rfl,fun _=>⟨h1,h2⟩,fun h=>by cases h⟩
        · exact⟨false,rfl,fun h=>(by cases h),fun _=>h1⟩
      have HR:=Lib.hid hR'
      clear hR hR'
      have zf:Tryz.prog.follows .mixedOrders=true:=by kernel_rfl
      gi_wp2_with fail
      have hw1:IntKind.i64.wrap ((a:Int)+k-a)=k:=by rw[IntWalk.i64_in _ (by omega)];omega
      have hw2:(0:Int)≤(a:Int)+k:=by omega
      have hw3:(a:Int)+k<s.length:=by omega
      have hw4:((a:Int)+k).toNat=a+k:=by omega
      refine z2k zjV 7 zf (by kernel_rfl) ?_
      simp only[List.take_succ_cons,List.take_zero,List.drop_succ_cons,List.drop_zero]
      repeat still_step
      refine wpStill_nil ?_
      clear hw1
      gi_wp2
      refine⟨fun h=>(by cases h),HR.out.mono ?_⟩
      rintro e W3 ⟨t,rfl,ht⟩
      cases t
      · gi_wp2
        refine bodyPost_ret (results_none rfl _ _ _) rfl ?_
        refine⟨⟨_,rfl⟩,.inr ⟨_,?_,ht.2 (by simp)⟩⟩
        rw[←zbf s a k hlt2]
        exact List.take_prefix _ _
      · obtain⟨hJ3,hB3⟩:=ht.1 (by simp)
        have hBa3:=(World.cell?_of_block (w:=wr) (a:=⟨Ba,0,none⟩) hB3.1).trans hBa
        have hBt3:=(World.cell?_of_block (w:=wr) (a:=⟨Bt,0,none⟩) hB3.2).trans hBt
        gi_wp2
        go_roundw
        case rel=>exact⟨k+1,by go_num,by omega,by rw[zbf s a k hlt2];exact hJ3,hBa3,hBt3⟩
        case measure=>simp[intOf];omega
    · gi_wp2
      go_end0
      exact⟨⟨_,rfl⟩,.inl ⟨_,(List.take_of_length_le (by rw[z4l];omega)),hJs⟩⟩
theorem znE(n:Nat)(s:zB)(a:Int)(w:World):
  CallsIn Fence.wide n Tryz.prog 237 #[.string (str s),.int .i64 a] w fun e w'=>e=.returned (.func (.func 277) #[] #[.pointer (some ⟨w.heap.size+1,0,none⟩),.pointer (some ⟨w.heap.size,0,none⟩)])∧w'=(w.alloc (.cells #[.string (str s)] 248)).alloc (.cells #[.int .i64 a] 3):=by
 refine callsIn_of_wp Tryz.func237 rfl trivial ?_ rfl;simp only[Tryz.ntmps237,List.size_toArray,List.length_cons,List.length_nil,Nat.reduceAdd,Nat.reduceSub,Array.replicate_succ,Array.replicate_zero,List.push_toArray,List.append_toArray,List.nil_append,List.cons_append]
 gi_wp2
 go_ret
 exact⟨rfl,rfl⟩
theorem z9g(s:zB)(a m:Int)(w:World)(hs:s.length≤9223372036854775807)(ha: -9223372036854775808≤a)(ha1:a≤9223372036854775807):
  Calls Tryz.prog 236 #[.string (str s),.int .i64 a,.int .i64 m] w fun e w'=>e=.returned (.bool (decide (0≤a∧a≤s.length∧m≤s.length-a)))∧w'=w:=by
 go_enter Tryz.func236,Tryz.ntmps236
 go_wp2
 all_goals go_ret
 all_goals exact⟨zqf (by rw[Bool.eq_iff_iff];simp_all []<;>omega),rfl⟩
end
end Go.Proofs.YtcpaleaajdilgaaGreatDoor
end
