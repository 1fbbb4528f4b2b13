/- Merged texts: Zu4. No statement of the program is proved here. -/
import Derived.Test.YtpmlapgbmgbilaaGreatDoorR34
set_option linter.unusedSimpArgs false
set_option linter.unusedVariables false
set_option maxRecDepth 100000
set_option maxHeartbeats 8000000
section
namespace Go.Proofs.YtpmlapgbmgbilaaGreatDoor
open Go Go.RowKit Go.Mor Go.Sh Go.Sh.Cd1 Go.Sh.Cd7
theorem zrM(k k':Int)(f n m f' n' m':ByteArray)(t o t' o':Int)(x y x' y':ByteArray):
  z05 Tryz.prog (do eqGuard .neq 37 (.const (.agg #[.int .i64 k,.string f,.string n,.string m,.int .i64 t,.int .i64 o,.string x,.string y])) (.const (.agg #[.int .i64 k',.string f',.string n',.string m',.int .i64 t',.int .i64 o',.string x',.string y'])) (.agg #[.int .i64 k,.string f,.string n,.string m,.int .i64 t,.int .i64 o,.string x,.string y]) (.agg #[.int .i64 k',.string f',.string n',.string m',.int .i64 t',.int .i64 o',.string x',.string y']);binOp .neq 37 (.agg #[.int .i64 k,.string f,.string n,.string m,.int .i64 t,.int .i64 o,.string x,.string y]) (.agg #[.int .i64 k',.string f',.string n',.string m',.int .i64 t',.int .i64 o',.string x',.string y']))=
  some (.pv (.v (.bool (!((k==k')&&((f==f')&&((n==n')&&((m==m')&&(z0g ⟨t,o⟩ ⟨t',o'⟩&&((x==x')&&((y==y')&&true)))))))))),.no):=by
 unfold z05;rw[z02];have hg:zq Tryz.prog (eqGuard .neq 37 (.const (.agg #[.int .i64 k,.string f,.string n,.string m,.int .i64 t,.int .i64 o,.string x,.string y])) (.const (.agg #[.int .i64 k',.string f',.string n',.string m',.int .i64 t',.int .i64 o',.string x',.string y'])) (.agg #[.int .i64 k,.string f,.string n,.string m,.int .i64 t,.int .i64 o,.string x,.string y]) (.agg #[.int .i64 k',.string f',.string n',.string m',.int .i64 t',.int .i64 o',.string x',.string y']))=some ():=by kernel_rfl
 rw[hg,Option.bind_some];have hb:binOp .neq 37 (.agg #[.int .i64 k,.string f,.string n,.string m,.int .i64 t,.int .i64 o,.string x,.string y]) (.agg #[.int .i64 k',.string f',.string n',.string m',.int .i64 t',.int .i64 o',.string x',.string y'])=(Op.equal 37 (.agg (chA k f n m t o x y)) (.agg (chA k' f' n' m' t' o' x' y'))>>=fun r=>pure (.bool (!r))):=rfl;rw[hb,z02,zkX];rfl
def z0b(h:Chg):Chg:=if h.k=1 then⟨1,[],h.n,[],h.t,h.x,[]⟩ else if h.k=3 then⟨3,h.f,h.n,[],ty0,[],[]⟩ else if h.k=4 then⟨4,h.f,[],[],h.t,h.x,[]⟩ else if h.k=5 then h else⟨h.k,h.f,[],[],ty0,[],[]⟩
theorem zh9(g:Sh.Glob)(h:Chg)(hk:1≤h.k∧h.k≤6):zC g 85 [chT h] [] (chT (z0b h)) []:=by
 obtain⟨k,f,n,m,⟨tk,ot⟩,x,o⟩:=h
 dsimp only at hk
 have e0:=bS [];have hk:k=1∨k=2∨k=3∨k=4∨k=5∨k=6:=by omega
 refine za tf_163 ?_;rcases hk with rfl|rfl|rfl|rfl|rfl|rfl
 all_goals(
  unfold chT;simp only[vW,seval,e0];try rfl)
def psB(s:zB):Bool:=s==[]||decide ((rdV s).2.2=0)
theorem zg3(g:Sh.Glob)(h:Chg)(hf:z0B h.f)(hn:z0B h.n)(hm:z0B h.m)(hx:RTx h.x)(ho:RTx h.o):zC g 58 [chT h] [] (B (z04 h)) []:=by
 have HX:=z94 g h.x hx;have HO:=z94 g h.o ho;have HF:=z33 g h.f hf;have HN:=z33 g h.n hn;have HM:=z33 g h.m hm;have HT:=zg4 g h.t;change SCalls _ _ _ _ _ (B (psB h.x)) _ at HX;change SCalls _ _ _ _ _ (B (psB h.o)) _ at HO;by_cases hk:1≤h.k∧h.k≤6
 ·have HC:=zh9 g h hk;have HS:(_:Option (TV×Upd))=_:=zrM h.k (z0b h).k (str h.f) (str h.n) (str h.m) (str (z0b h).f) (str (z0b h).n) (str (z0b h).m) h.t.k h.t.o (z0b h).t.k (z0b h).t.o (str h.x) (str h.o) (str (z0b h).x) (str (z0b h).o);simp only[zps]at HS;have hsm:((h.k==(z0b h).k)&&((h.f==(z0b h).f)&&((h.n==(z0b h).n)&&((h.m==(z0b h).m)&&(z0g ⟨h.t.k,h.t.o⟩ ⟨(z0b h).t.k,(z0b h).t.o⟩&&((h.x==(z0b h).x)&&((h.o==(z0b h).o)&&true)))))))=z0j h (z0b h):=rfl;rw[hsm]at HS;obtain⟨k,f,n,m,⟨tk,ot⟩,x,o⟩:=h
  dsimp only at*
  have hk':k=1∨k=2∨k=3∨k=4∨k=5∨k=6:=by omega
  clear hk;rcases hk' with rfl|rfl|rfl|rfl|rfl|rfl
  ·have hw:z04 ⟨1,f,n,m,⟨tk,ot⟩,x,o⟩=(z0j (⟨1,f,n,m,⟨tk,ot⟩,x,o⟩:Chg) (z0b (⟨1,f,n,m,⟨tk,ot⟩,x,o⟩:Chg))&&(zb n&&(zi ⟨tk,ot⟩&&(psB x&&(psB o))))):=by
    rw[Bool.eq_iff_iff];simp only[z04,z0A,z1C,z3z,z0j,z0b,psB,z0g,ty0,Bool.and_eq_true,Bool.or_eq_true,beq_iff_eq,decide_eq_true_eq,if_true,if_false,Bool.false_eq_true,true_and,and_true,show((1:Int)=1)=True from by simp,show((1:Int)=2)=False from by simp,show((1:Int)=6)=False from by simp,show((1:Int)=3)=False from by simp,show((1:Int)=4)=False from by simp,show((1:Int)=5)=False from by simp,false_or,or_false,true_or,or_true];constructor
    ·intro h;simp_all
    ·intro h;simp_all
   rw[hw];clear hw;generalize z0j (⟨1,f,n,m,⟨tk,ot⟩,x,o⟩:Chg) (z0b ⟨1,f,n,m,⟨tk,ot⟩,x,o⟩)=sb at*;simp only[z0b,ty0,chT,if_true,if_false,show((1:Int)=1)=True from by simp,show((1:Int)=3)=False from by simp,show((1:Int)=4)=False from by simp,show((1:Int)=5)=False from by simp]at HC HS;generalize zb f=bf at*;generalize zb n=bn at*;generalize zi ⟨tk,ot⟩=bt at*;generalize zb m=bm at*;generalize psB x=px at*;generalize psB o=po at*;refine za tf_160 ?_;unfold chT B tyT at*;simp only[vW,seval];refine z7 HC ?_;simp only[vW,seval,HS];cases sb
   ·simp only[vW,seval];try rfl
   simp only[vW,seval];refine z7 HN ?_;cases bn
   ·simp only[vW,seval];try rfl
   simp only[vW,seval];refine z7 HT ?_;cases bt
   ·simp only[vW,seval];try rfl
   simp only[vW,seval];refine z7 HX ?_;cases px
   ·simp only[vW,seval];try rfl
   simp only[vW,seval];refine z7 HO ?_;cases po
   ·simp only[vW,seval];try rfl
   simp only[vW,seval];try rfl
  ·have hw:z04 ⟨2,f,n,m,⟨tk,ot⟩,x,o⟩=(z0j (⟨2,f,n,m,⟨tk,ot⟩,x,o⟩:Chg) (z0b (⟨2,f,n,m,⟨tk,ot⟩,x,o⟩:Chg))&&(zb f&&(psB x&&(psB o)))):=by
    rw[Bool.eq_iff_iff];simp only[z04,z0A,z1C,z3z,z0j,z0b,psB,z0g,ty0,Bool.and_eq_true,Bool.or_eq_true,beq_iff_eq,decide_eq_true_eq,if_true,if_false,Bool.false_eq_true,true_and,and_true,show((2:Int)=1)=False from by simp,show((2:Int)=2)=True from by simp,show((2:Int)=6)=False from by simp,show((2:Int)=3)=False from by simp,show((2:Int)=4)=False from by simp,show((2:Int)=5)=False from by simp,false_or,or_false,true_or,or_true];constructor
    ·intro h;simp_all
    ·intro h;simp_all
   rw[hw];clear hw;generalize z0j (⟨2,f,n,m,⟨tk,ot⟩,x,o⟩:Chg) (z0b ⟨2,f,n,m,⟨tk,ot⟩,x,o⟩)=sb at*;simp only[z0b,ty0,chT,if_true,if_false,show((2:Int)=1)=False from by simp,show((2:Int)=3)=False from by simp,show((2:Int)=4)=False from by simp,show((2:Int)=5)=False from by simp]at HC HS;generalize zb f=bf at*;generalize zb n=bn at*;generalize zi ⟨tk,ot⟩=bt at*;generalize zb m=bm at*;generalize psB x=px at*;generalize psB o=po at*;refine za tf_160 ?_;unfold chT B tyT at*;simp only[vW,seval];refine z7 HC ?_;simp only[vW,seval,HS];cases sb
   ·simp only[vW,seval];try rfl
   simp only[vW,seval];refine z7 HF ?_;cases bf
   ·simp only[vW,seval];try rfl
   simp only[vW,seval];refine z7 HX ?_;cases px
   ·simp only[vW,seval];try rfl
   simp only[vW,seval];refine z7 HO ?_;cases po
   ·simp only[vW,seval];try rfl
   simp only[vW,seval];try rfl
  ·have hw:z04 ⟨3,f,n,m,⟨tk,ot⟩,x,o⟩=(z0j (⟨3,f,n,m,⟨tk,ot⟩,x,o⟩:Chg) (z0b (⟨3,f,n,m,⟨tk,ot⟩,x,o⟩:Chg))&&(zb f&&(zb n&&(psB x&&(psB o))))):=by
    rw[Bool.eq_iff_iff];simp only[z04,z0A,z1C,z3z,z0j,z0b,psB,z0g,ty0,Bool.and_eq_true,Bool.or_eq_true,beq_iff_eq,decide_eq_true_eq,if_true,if_false,Bool.false_eq_true,true_and,and_true,show((3:Int)=1)=False from by simp,show((3:Int)=2)=False from by simp,show((3:Int)=6)=False from by simp,show((3:Int)=3)=True from by simp,show((3:Int)=4)=False from by simp,show((3:Int)=5)=False from by simp,false_or,or_false,true_or,or_true];constructor
    ·intro h;simp_all
    ·intro h;simp_all
   rw[hw];clear hw;generalize z0j (⟨3,f,n,m,⟨tk,ot⟩,x,o⟩:Chg) (z0b ⟨3,f,n,m,⟨tk,ot⟩,x,o⟩)=sb at*;simp only[z0b,ty0,chT,if_true,if_false,show((3:Int)=1)=False from by simp,show((3:Int)=3)=True from by simp,show((3:Int)=4)=False from by simp,show((3:Int)=5)=False from by simp]at HC HS;generalize zb f=bf at*;generalize zb n=bn at*;generalize zi ⟨tk,ot⟩=bt at*;generalize zb m=bm at*;generalize psB x=px at*;generalize psB o=po at*;refine za tf_160 ?_;unfold chT B tyT at*;simp only[vW,seval];refine z7 HC ?_;simp only[vW,seval,HS];cases sb
   ·simp only[vW,seval];try rfl
   simp only[vW,seval];refine z7 HF ?_;cases bf
   ·simp only[vW,seval];try rfl
   simp only[vW,seval];refine z7 HN ?_;cases bn
   ·simp only[vW,seval];try rfl
   simp only[vW,seval];refine z7 HX ?_;cases px
   ·simp only[vW,seval];try rfl
   simp only[vW,seval];refine z7 HO ?_;cases po
   ·simp only[vW,seval];try rfl
   simp only[vW,seval];try rfl
  ·have hw:z04 ⟨4,f,n,m,⟨tk,ot⟩,x,o⟩=(z0j (⟨4,f,n,m,⟨tk,ot⟩,x,o⟩:Chg) (z0b (⟨4,f,n,m,⟨tk,ot⟩,x,o⟩:Chg))&&(zb f&&(zi ⟨tk,ot⟩&&(psB x&&(psB o))))):=by
    rw[Bool.eq_iff_iff];simp only[z04,z0A,z1C,z3z,z0j,z0b,psB,z0g,ty0,Bool.and_eq_true,Bool.or_eq_true,beq_iff_eq,decide_eq_true_eq,if_true,if_false,Bool.false_eq_true,true_and,and_true,show((4:Int)=1)=False from by simp,show((4:Int)=2)=False from by simp,show((4:Int)=6)=False from by simp,show((4:Int)=3)=False from by simp,show((4:Int)=4)=True from by simp,show((4:Int)=5)=False from by simp,false_or,or_false,true_or,or_true];constructor
    ·intro h;simp_all
    ·intro h;simp_all
   rw[hw];clear hw;generalize z0j (⟨4,f,n,m,⟨tk,ot⟩,x,o⟩:Chg) (z0b ⟨4,f,n,m,⟨tk,ot⟩,x,o⟩)=sb at*;simp only[z0b,ty0,chT,if_true,if_false,show((4:Int)=1)=False from by simp,show((4:Int)=3)=False from by simp,show((4:Int)=4)=True from by simp,show((4:Int)=5)=False from by simp]at HC HS;generalize zb f=bf at*;generalize zb n=bn at*;generalize zi ⟨tk,ot⟩=bt at*;generalize zb m=bm at*;generalize psB x=px at*;generalize psB o=po at*;refine za tf_160 ?_;unfold chT B tyT at*;simp only[vW,seval];refine z7 HC ?_;simp only[vW,seval,HS];cases sb
   ·simp only[vW,seval];try rfl
   simp only[vW,seval];refine z7 HF ?_;cases bf
   ·simp only[vW,seval];try rfl
   simp only[vW,seval];refine z7 HT ?_;cases bt
   ·simp only[vW,seval];try rfl
   simp only[vW,seval];refine z7 HX ?_;cases px
   ·simp only[vW,seval];try rfl
   simp only[vW,seval];refine z7 HO ?_;cases po
   ·simp only[vW,seval];try rfl
   simp only[vW,seval];try rfl
  ·have hw:z04 ⟨5,f,n,m,⟨tk,ot⟩,x,o⟩=(z0j (⟨5,f,n,m,⟨tk,ot⟩,x,o⟩:Chg) (z0b (⟨5,f,n,m,⟨tk,ot⟩,x,o⟩:Chg))&&(zb f&&(zb n&&(zi ⟨tk,ot⟩&&(zb m&&(psB x&&(psB o))))))):=by
    rw[Bool.eq_iff_iff];simp only[z04,z0A,z1C,z3z,z0j,z0b,psB,z0g,ty0,Bool.and_eq_true,Bool.or_eq_true,beq_iff_eq,decide_eq_true_eq,if_true,if_false,Bool.false_eq_true,true_and,and_true,show((5:Int)=1)=False from by simp,show((5:Int)=2)=False from by simp,show((5:Int)=6)=False from by simp,show((5:Int)=3)=False from by simp,show((5:Int)=4)=False from by simp,show((5:Int)=5)=True from by simp,false_or,or_false,true_or,or_true];constructor
    ·intro h;simp_all
    ·intro h;simp_all
   rw[hw];clear hw;generalize z0j (⟨5,f,n,m,⟨tk,ot⟩,x,o⟩:Chg) (z0b ⟨5,f,n,m,⟨tk,ot⟩,x,o⟩)=sb at*;simp only[z0b,ty0,chT,if_true,if_false,show((5:Int)=1)=False from by simp,show((5:Int)=3)=False from by simp,show((5:Int)=4)=False from by simp,show((5:Int)=5)=True from by simp]at HC HS;generalize zb f=bf at*;generalize zb n=bn at*;generalize zi ⟨tk,ot⟩=bt at*;generalize zb m=bm at*;generalize psB x=px at*;generalize psB o=po at*;refine za tf_160 ?_;unfold chT B tyT at*;simp only[vW,seval];refine z7 HC ?_;simp only[vW,seval,HS];cases sb
   ·simp only[vW,seval];try rfl
   simp only[vW,seval];refine z7 HF ?_;cases bf
   ·simp only[vW,seval];try rfl
   simp only[vW,seval];refine z7 HN ?_;cases bn
   ·simp only[vW,seval];try rfl
   simp only[vW,seval];refine z7 HT ?_;cases bt
   ·simp only[vW,seval];try rfl
   simp only[vW,seval];refine z7 HM ?_;cases bm
   ·simp only[vW,seval];try rfl
   simp only[vW,seval];refine z7 HX ?_;cases px
   ·simp only[vW,seval];try rfl
   simp only[vW,seval];refine z7 HO ?_;cases po
   ·simp only[vW,seval];try rfl
   simp only[vW,seval];try rfl
  ·have hw:z04 ⟨6,f,n,m,⟨tk,ot⟩,x,o⟩=(z0j (⟨6,f,n,m,⟨tk,ot⟩,x,o⟩:Chg) (z0b (⟨6,f,n,m,⟨tk,ot⟩,x,o⟩:Chg))&&(zb f&&(psB x&&(psB o)))):=by
    rw[Bool.eq_iff_iff];simp only[z04,z0A,z1C,z3z,z0j,z0b,psB,z0g,ty0,Bool.and_eq_true,Bool.or_eq_true,beq_iff_eq,decide_eq_true_eq,if_true,if_false,Bool.false_eq_true,true_and,and_true,show((6:Int)=1)=False from by simp,show((6:Int)=2)=False from by simp,show((6:Int)=6)=True from by simp,show((6:Int)=3)=False from by simp,show((6:Int)=4)=False from by simp,show((6:Int)=5)=False from by simp,false_or,or_false,true_or,or_true];constructor
    ·intro h;simp_all
    ·intro h;simp_all
   rw[hw];clear hw;generalize z0j (⟨6,f,n,m,⟨tk,ot⟩,x,o⟩:Chg) (z0b ⟨6,f,n,m,⟨tk,ot⟩,x,o⟩)=sb at*;simp only[z0b,ty0,chT,if_true,if_false,show((6:Int)=1)=False from by simp,show((6:Int)=3)=False from by simp,show((6:Int)=4)=False from by simp,show((6:Int)=5)=False from by simp]at HC HS;generalize zb f=bf at*;generalize zb n=bn at*;generalize zi ⟨tk,ot⟩=bt at*;generalize zb m=bm at*;generalize psB x=px at*;generalize psB o=po at*;refine za tf_160 ?_;unfold chT B tyT at*;simp only[vW,seval];refine z7 HC ?_;simp only[vW,seval,HS];cases sb
   ·simp only[vW,seval];try rfl
   simp only[vW,seval];refine z7 HF ?_;cases bf
   ·simp only[vW,seval];try rfl
   simp only[vW,seval];refine z7 HX ?_;cases px
   ·simp only[vW,seval];try rfl
   simp only[vW,seval];refine z7 HO ?_;cases po
   ·simp only[vW,seval];try rfl
   simp only[vW,seval];try rfl
 ·have hw:z04 h=false:=by
   unfold z04 z0A;rw[if_neg (by omega),if_neg (by omega),if_neg (by omega),if_neg (by omega),if_neg (by omega)];rfl
  rw[hw];refine za tf_160 ?_;unfold chT B;by_cases h1:h.k<1
  ·simp only[vW,seval,h1]
  ·have h6:6<h.k:=by omega
   simp only[vW,seval,h1,h6]
end Go.Proofs.YtpmlapgbmgbilaaGreatDoor
end
