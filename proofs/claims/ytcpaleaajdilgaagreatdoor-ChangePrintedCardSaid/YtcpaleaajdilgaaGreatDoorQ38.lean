/- Merged texts: Zu4. No statement of the program is proved here. -/
import Derived.Test.YtcpaleaajdilgaaGreatDoorQ37
set_option linter.unusedSimpArgs false
set_option linter.unusedVariables false
set_option maxRecDepth 100000
set_option maxHeartbeats 8000000
section
namespace Go.Proofs.YtcpaleaajdilgaaGreatDoor
open Go Go.RowKit Go.Mor Go.Sh Go.Sh.Cd1 Go.Sh.Cd7
theorem zpx(k k':Int)(f n m f' n' m':ByteArray)(t o t' o':Int)(x y x' y':ByteArray):
  z04 Tryz.prog (do eqGuard .neq 50 (.const (.agg #[.int .i64 k,.string f,.string n,.string m,.int .i64 t,.int .i64 o,.string x,.string y])) (.const (.agg #[.int .i64 k',.string f',.string n',.string m',.int .i64 t',.int .i64 o',.string x',.string y'])) (.agg #[.int .i64 k,.string f,.string n,.string m,.int .i64 t,.int .i64 o,.string x,.string y]) (.agg #[.int .i64 k',.string f',.string n',.string m',.int .i64 t',.int .i64 o',.string x',.string y']);binOp .neq 50 (.agg #[.int .i64 k,.string f,.string n,.string m,.int .i64 t,.int .i64 o,.string x,.string y]) (.agg #[.int .i64 k',.string f',.string n',.string m',.int .i64 t',.int .i64 o',.string x',.string y']))=
  some (.pv (.v (.bool (!((k==k')&&((f==f')&&((n==n')&&((m==m')&&(z0h ⟨t,o⟩ ⟨t',o'⟩&&((x==x')&&((y==y')&&true)))))))))),.no):=by
 unfold z04;rw[zZ];have hg:zr Tryz.prog (eqGuard .neq 50 (.const (.agg #[.int .i64 k,.string f,.string n,.string m,.int .i64 t,.int .i64 o,.string x,.string y])) (.const (.agg #[.int .i64 k',.string f',.string n',.string m',.int .i64 t',.int .i64 o',.string x',.string y'])) (.agg #[.int .i64 k,.string f,.string n,.string m,.int .i64 t,.int .i64 o,.string x,.string y]) (.agg #[.int .i64 k',.string f',.string n',.string m',.int .i64 t',.int .i64 o',.string x',.string y']))=some ():=by kernel_rfl
 rw[hg,Option.bind_some];have hb:binOp .neq 50 (.agg #[.int .i64 k,.string f,.string n,.string m,.int .i64 t,.int .i64 o,.string x,.string y]) (.agg #[.int .i64 k',.string f',.string n',.string m',.int .i64 t',.int .i64 o',.string x',.string y'])=(Op.equal 50 (.agg (chA k f n m t o x y)) (.agg (chA k' f' n' m' t' o' x' y'))>>=fun r=>pure (.bool (!r))):=rfl;rw[hb,zZ,zja];rfl
def z0a(h:Chg):Chg:=if h.k=1 then⟨1,[],h.n,[],h.t,h.x,[]⟩ else if h.k=3 then⟨3,h.f,h.n,[],ty0,[],[]⟩ else if h.k=4 then⟨4,h.f,[],[],h.t,h.x,[]⟩ else if h.k=5 then h else⟨h.k,h.f,[],[],ty0,[],[]⟩
theorem zfO(g:Sh.Glob)(h:Chg)(hk:1≤h.k∧h.k≤6):zC g 172 [chT h] [] (chT (z0a h)) []:=by
 obtain⟨k,f,n,m,⟨tk,ot⟩,x,o⟩:=h
 dsimp only at hk
 have e0:=bS [];have hk:k=1∨k=2∨k=3∨k=4∨k=5∨k=6:=by omega
 refine za tf_148 ?_;rcases hk with rfl|rfl|rfl|rfl|rfl|rfl
 all_goals(
  unfold chT;simp only[vW,seval,e0];try rfl)
def psB(s:zB):Bool:=s==[]||decide ((rdV s).2.2=0)
theorem zeO(g:Sh.Glob)(h:Chg)(hf:z0t h.f)(hn:z0t h.n)(hm:z0t h.m)(hx:RTx h.x)(ho:RTx h.o):zC g 113 [chT h] [] (B (zS h)) []:=by
 have HX:=z8G g h.x hx;have HO:=z8G g h.o ho;have HF:=z2M g h.f hf;have HN:=z2M g h.n hn;have HM:=z2M g h.m hm;have HT:=zeP g h.t;change SCalls _ _ _ _ _ (B (psB h.x)) _ at HX;change SCalls _ _ _ _ _ (B (psB h.o)) _ at HO;by_cases hk:1≤h.k∧h.k≤6
 ·have HC:=zfO g h hk;have HS:(_:Option (TV×Upd))=_:=zpx h.k (z0a h).k (str h.f) (str h.n) (str h.m) (str (z0a h).f) (str (z0a h).n) (str (z0a h).m) h.t.k h.t.o (z0a h).t.k (z0a h).t.o (str h.x) (str h.o) (str (z0a h).x) (str (z0a h).o);simp only[zng]at HS;have hsm:((h.k==(z0a h).k)&&((h.f==(z0a h).f)&&((h.n==(z0a h).n)&&((h.m==(z0a h).m)&&(z0h ⟨h.t.k,h.t.o⟩ ⟨(z0a h).t.k,(z0a h).t.o⟩&&((h.x==(z0a h).x)&&((h.o==(z0a h).o)&&true)))))))=z0r h (z0a h):=rfl;rw[hsm]at HS;obtain⟨k,f,n,m,⟨tk,ot⟩,x,o⟩:=h
  dsimp only at*
  have hk':k=1∨k=2∨k=3∨k=4∨k=5∨k=6:=by omega
  clear hk;rcases hk' with rfl|rfl|rfl|rfl|rfl|rfl
  ·have hw:zS ⟨1,f,n,m,⟨tk,ot⟩,x,o⟩=(z0r (⟨1,f,n,m,⟨tk,ot⟩,x,o⟩:Chg) (z0a (⟨1,f,n,m,⟨tk,ot⟩,x,o⟩:Chg))&&(zb n&&(zg ⟨tk,ot⟩&&(psB x&&(psB o))))):=by
    rw[Bool.eq_iff_iff];simp only[zS,z0H,z1A,z2F,z0r,z0a,psB,z0h,ty0,Bool.and_eq_true,Bool.or_eq_true,beq_iff_eq,decide_eq_true_eq,if_true,if_false,Bool.false_eq_true,true_and,and_true,show((1:Int)=1)=True from by simp,show((1:Int)=2)=False from by simp,show((1:Int)=6)=False from by simp,show((1:Int)=3)=False from by simp,show((1:Int)=4)=False from by simp,show((1:Int)=5)=False from by simp,false_or,or_false,true_or,or_true];constructor
    ·intro h;simp_all
    ·intro h;simp_all
   rw[hw];clear hw;generalize z0r (⟨1,f,n,m,⟨tk,ot⟩,x,o⟩:Chg) (z0a ⟨1,f,n,m,⟨tk,ot⟩,x,o⟩)=sb at*;simp only[z0a,ty0,chT,if_true,if_false,show((1:Int)=1)=True from by simp,show((1:Int)=3)=False from by simp,show((1:Int)=4)=False from by simp,show((1:Int)=5)=False from by simp]at HC HS;generalize zb f=bf at*;generalize zb n=bn at*;generalize zg ⟨tk,ot⟩=bt at*;generalize zb m=bm at*;generalize psB x=px at*;generalize psB o=po at*;refine za tf_145 ?_;unfold chT B tyT at*;simp only[vW,seval];refine z7 HC ?_;simp only[vW,seval,HS];cases sb
   ·simp only[vW,seval];try rfl
   simp only[vW,seval];refine z7 HN ?_;cases bn
   ·simp only[vW,seval];try rfl
   simp only[vW,seval];refine z7 HT ?_;cases bt
   ·simp only[vW,seval];try rfl
   simp only[vW,seval];refine z7 HX ?_;cases px
   ·simp only[vW,seval];try rfl
   simp only[vW,seval];refine z7 HO ?_;cases po
   ·simp only[vW,seval];try rfl
   simp only[vW,seval];try rfl
  ·have hw:zS ⟨2,f,n,m,⟨tk,ot⟩,x,o⟩=(z0r (⟨2,f,n,m,⟨tk,ot⟩,x,o⟩:Chg) (z0a (⟨2,f,n,m,⟨tk,ot⟩,x,o⟩:Chg))&&(zb f&&(psB x&&(psB o)))):=by
    rw[Bool.eq_iff_iff];simp only[zS,z0H,z1A,z2F,z0r,z0a,psB,z0h,ty0,Bool.and_eq_true,Bool.or_eq_true,beq_iff_eq,decide_eq_true_eq,if_true,if_false,Bool.false_eq_true,true_and,and_true,show((2:Int)=1)=False from by simp,show((2:Int)=2)=True from by simp,show((2:Int)=6)=False from by simp,show((2:Int)=3)=False from by simp,show((2:Int)=4)=False from by simp,show((2:Int)=5)=False from by simp,false_or,or_false,true_or,or_true];constructor
    ·intro h;simp_all
    ·intro h;simp_all
   rw[hw];clear hw;generalize z0r (⟨2,f,n,m,⟨tk,ot⟩,x,o⟩:Chg) (z0a ⟨2,f,n,m,⟨tk,ot⟩,x,o⟩)=sb at*;simp only[z0a,ty0,chT,if_true,if_false,show((2:Int)=1)=False from by simp,show((2:Int)=3)=False from by simp,show((2:Int)=4)=False from by simp,show((2:Int)=5)=False from by simp]at HC HS;generalize zb f=bf at*;generalize zb n=bn at*;generalize zg ⟨tk,ot⟩=bt at*;generalize zb m=bm at*;generalize psB x=px at*;generalize psB o=po at*;refine za tf_145 ?_;unfold chT B tyT at*;simp only[vW,seval];refine z7 HC ?_;simp only[vW,seval,HS];cases sb
   ·simp only[vW,seval];try rfl
   simp only[vW,seval];refine z7 HF ?_;cases bf
   ·simp only[vW,seval];try rfl
   simp only[vW,seval];refine z7 HX ?_;cases px
   ·simp only[vW,seval];try rfl
   simp only[vW,seval];refine z7 HO ?_;cases po
   ·simp only[vW,seval];try rfl
   simp only[vW,seval];try rfl
  ·have hw:zS ⟨3,f,n,m,⟨tk,ot⟩,x,o⟩=(z0r (⟨3,f,n,m,⟨tk,ot⟩,x,o⟩:Chg) (z0a (⟨3,f,n,m,⟨tk,ot⟩,x,o⟩:Chg))&&(zb f&&(zb n&&(psB x&&(psB o))))):=by
    rw[Bool.eq_iff_iff];simp only[zS,z0H,z1A,z2F,z0r,z0a,psB,z0h,ty0,Bool.and_eq_true,Bool.or_eq_true,beq_iff_eq,decide_eq_true_eq,if_true,if_false,Bool.false_eq_true,true_and,and_true,show((3:Int)=1)=False from by simp,show((3:Int)=2)=False from by simp,show((3:Int)=6)=False from by simp,show((3:Int)=3)=True from by simp,show((3:Int)=4)=False from by simp,show((3:Int)=5)=False from by simp,false_or,or_false,true_or,or_true];constructor
    ·intro h;simp_all
    ·intro h;simp_all
   rw[hw];clear hw;generalize z0r (⟨3,f,n,m,⟨tk,ot⟩,x,o⟩:Chg) (z0a ⟨3,f,n,m,⟨tk,ot⟩,x,o⟩)=sb at*;simp only[z0a,ty0,chT,if_true,if_false,show((3:Int)=1)=False from by simp,show((3:Int)=3)=True from by simp,show((3:Int)=4)=False from by simp,show((3:Int)=5)=False from by simp]at HC HS;generalize zb f=bf at*;generalize zb n=bn at*;generalize zg ⟨tk,ot⟩=bt at*;generalize zb m=bm at*;generalize psB x=px at*;generalize psB o=po at*;refine za tf_145 ?_;unfold chT B tyT at*;simp only[vW,seval];refine z7 HC ?_;simp only[vW,seval,HS];cases sb
   ·simp only[vW,seval];try rfl
   simp only[vW,seval];refine z7 HF ?_;cases bf
   ·simp only[vW,seval];try rfl
   simp only[vW,seval];refine z7 HN ?_;cases bn
   ·simp only[vW,seval];try rfl
   simp only[vW,seval];refine z7 HX ?_;cases px
   ·simp only[vW,seval];try rfl
   simp only[vW,seval];refine z7 HO ?_;cases po
   ·simp only[vW,seval];try rfl
   simp only[vW,seval];try rfl
  ·have hw:zS ⟨4,f,n,m,⟨tk,ot⟩,x,o⟩=(z0r (⟨4,f,n,m,⟨tk,ot⟩,x,o⟩:Chg) (z0a (⟨4,f,n,m,⟨tk,ot⟩,x,o⟩:Chg))&&(zb f&&(zg ⟨tk,ot⟩&&(psB x&&(psB o))))):=by
    rw[Bool.eq_iff_iff];simp only[zS,z0H,z1A,z2F,z0r,z0a,psB,z0h,ty0,Bool.and_eq_true,Bool.or_eq_true,beq_iff_eq,decide_eq_true_eq,if_true,if_false,Bool.false_eq_true,true_and,and_true,show((4:Int)=1)=False from by simp,show((4:Int)=2)=False from by simp,show((4:Int)=6)=False from by simp,show((4:Int)=3)=False from by simp,show((4:Int)=4)=True from by simp,show((4:Int)=5)=False from by simp,false_or,or_false,true_or,or_true];constructor
    ·intro h;simp_all
    ·intro h;simp_all
   rw[hw];clear hw;generalize z0r (⟨4,f,n,m,⟨tk,ot⟩,x,o⟩:Chg) (z0a ⟨4,f,n,m,⟨tk,ot⟩,x,o⟩)=sb at*;simp only[z0a,ty0,chT,if_true,if_false,show((4:Int)=1)=False from by simp,show((4:Int)=3)=False from by simp,show((4:Int)=4)=True from by simp,show((4:Int)=5)=False from by simp]at HC HS;generalize zb f=bf at*;generalize zb n=bn at*;generalize zg ⟨tk,ot⟩=bt at*;generalize zb m=bm at*;generalize psB x=px at*;generalize psB o=po at*;refine za tf_145 ?_;unfold chT B tyT at*;simp only[vW,seval];refine z7 HC ?_;simp only[vW,seval,HS];cases sb
   ·simp only[vW,seval];try rfl
   simp only[vW,seval];refine z7 HF ?_;cases bf
   ·simp only[vW,seval];try rfl
   simp only[vW,seval];refine z7 HT ?_;cases bt
   ·simp only[vW,seval];try rfl
   simp only[vW,seval];refine z7 HX ?_;cases px
   ·simp only[vW,seval];try rfl
   simp only[vW,seval];refine z7 HO ?_;cases po
   ·simp only[vW,seval];try rfl
   simp only[vW,seval];try rfl
  ·have hw:zS ⟨5,f,n,m,⟨tk,ot⟩,x,o⟩=(z0r (⟨5,f,n,m,⟨tk,ot⟩,x,o⟩:Chg) (z0a (⟨5,f,n,m,⟨tk,ot⟩,x,o⟩:Chg))&&(zb f&&(zb n&&(zg ⟨tk,ot⟩&&(zb m&&(psB x&&(psB o))))))):=by
    rw[Bool.eq_iff_iff];simp only[zS,z0H,z1A,z2F,z0r,z0a,psB,z0h,ty0,Bool.and_eq_true,Bool.or_eq_true,beq_iff_eq,decide_eq_true_eq,if_true,if_false,Bool.false_eq_true,true_and,and_true,show((5:Int)=1)=False from by simp,show((5:Int)=2)=False from by simp,show((5:Int)=6)=False from by simp,show((5:Int)=3)=False from by simp,show((5:Int)=4)=False from by simp,show((5:Int)=5)=True from by simp,false_or,or_false,true_or,or_true];constructor
    ·intro h;simp_all
    ·intro h;simp_all
   rw[hw];clear hw;generalize z0r (⟨5,f,n,m,⟨tk,ot⟩,x,o⟩:Chg) (z0a ⟨5,f,n,m,⟨tk,ot⟩,x,o⟩)=sb at*;simp only[z0a,ty0,chT,if_true,if_false,show((5:Int)=1)=False from by simp,show((5:Int)=3)=False from by simp,show((5:Int)=4)=False from by simp,show((5:Int)=5)=True from by simp]at HC HS;generalize zb f=bf at*;generalize zb n=bn at*;generalize zg ⟨tk,ot⟩=bt at*;generalize zb m=bm at*;generalize psB x=px at*;generalize psB o=po at*;refine za tf_145 ?_;unfold chT B tyT at*;simp only[vW,seval];refine z7 HC ?_;simp only[vW,seval,HS];cases sb
   ·simp only[vW,seval];try rfl
   simp only[vW,seval];refine z7 HF ?_;cases bf
   ·simp only[vW,seval];try rfl
   simp only[vW,seval];refine z7 HN ?_;cases bn
   ·simp only[vW,seval];try rfl
   simp only[vW,seval];refine z7 HT ?_;cases bt
   ·simp only[vW,seval];try rfl
   simp only[vW,seval];refine z7 HM ?_;cases bm
   ·simp only[vW,seval];try rfl
   simp only[vW,seval];refine z7 HX ?_;cases px
   ·simp only[vW,seval];try rfl
   simp only[vW,seval];refine z7 HO ?_;cases po
   ·simp only[vW,seval];try rfl
   simp only[vW,seval];try rfl
  ·have hw:zS ⟨6,f,n,m,⟨tk,ot⟩,x,o⟩=(z0r (⟨6,f,n,m,⟨tk,ot⟩,x,o⟩:Chg) (z0a (⟨6,f,n,m,⟨tk,ot⟩,x,o⟩:Chg))&&(zb f&&(psB x&&(psB o)))):=by
    rw[Bool.eq_iff_iff];simp only[zS,z0H,z1A,z2F,z0r,z0a,psB,z0h,ty0,Bool.and_eq_true,Bool.or_eq_true,beq_iff_eq,decide_eq_true_eq,if_true,if_false,Bool.false_eq_true,true_and,and_true,show((6:Int)=1)=False from by simp,show((6:Int)=2)=False from by simp,show((6:Int)=6)=True from by simp,show((6:Int)=3)=False from by simp,show((6:Int)=4)=False from by simp,show((6:Int)=5)=False from by simp,false_or,or_false,true_or,or_true];constructor
    ·intro h;simp_all
    ·intro h;simp_all
   rw[hw];clear hw;generalize z0r (⟨6,f,n,m,⟨tk,ot⟩,x,o⟩:Chg) (z0a ⟨6,f,n,m,⟨tk,ot⟩,x,o⟩)=sb at*;simp only[z0a,ty0,chT,if_true,if_false,show((6:Int)=1)=False from by simp,show((6:Int)=3)=False from by simp,show((6:Int)=4)=False from by simp,show((6:Int)=5)=False from by simp]at HC HS;generalize zb f=bf at*;generalize zb n=bn at*;generalize zg ⟨tk,ot⟩=bt at*;generalize zb m=bm at*;generalize psB x=px at*;generalize psB o=po at*;refine za tf_145 ?_;unfold chT B tyT at*;simp only[vW,seval];refine z7 HC ?_;simp only[vW,seval,HS];cases sb
   ·simp only[vW,seval];try rfl
   simp only[vW,seval];refine z7 HF ?_;cases bf
   ·simp only[vW,seval];try rfl
   simp only[vW,seval];refine z7 HX ?_;cases px
   ·simp only[vW,seval];try rfl
   simp only[vW,seval];refine z7 HO ?_;cases po
   ·simp only[vW,seval];try rfl
   simp only[vW,seval];try rfl
 ·have hw:zS h=false:=by
   unfold zS z0H;rw[if_neg (by omega),if_neg (by omega),if_neg (by omega),if_neg (by omega),if_neg (by omega)];rfl
  rw[hw];refine za tf_145 ?_;unfold chT B;by_cases h1:h.k<1
  ·simp only[vW,seval,h1]
  ·have h6:6<h.k:=by omega
   simp only[vW,seval,h1,h6]
end Go.Proofs.YtcpaleaajdilgaaGreatDoor
end
