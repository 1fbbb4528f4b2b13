/- Merged texts: Px5 Cd10 Op8 Ln5 Yd1. No statement of the program is proved here. -/
import Derived.Test.YtbkgnekfigknhaaGreatDoorQ39
set_option linter.unusedSimpArgs false
set_option linter.unusedVariables false
set_option maxRecDepth 100000
set_option maxHeartbeats 8000000
section
namespace Go.Mor
open Go
def arT:Nat→zB→zB
 |0,t=>t
 |n+1,t=>32::40::(arT n t++[32,41])
end Go.Mor
end

section
namespace Go.Sh.Cd10
open Go Go.Sh
theorem tf_121:gQ ⟨3,171,[],[],[[2,8],[31],[0,32033],[1,34038],[39045],[46050],[12,51059],[6,60068],[69075],[76082],[17,19,83093],[3,9011,13016,18,94],[3,8,16,94097],[98106],[107115],[14015,23,116124],[10011,13,125133],[18,29,134139],[9,20022,24028,30,140170]],[.tmp 8],false⟩:=gK
end Go.Sh.Cd10
end

section
namespace Go.Proofs.YtbkgnekfigknhaaGreatDoor
open Go.ChangeShapes Go.WideShapes Go.ChangeAt Go.RowKit Go.Lib Go.Mor Go.Deep Go.Joins
open Go.Sh (RelT RelV TV PV SCalls Env MSim z0o zy z23 Low)
open Go.Proofs.YtbkgnekfigknhaaGreatDoor.OpR
section
variable{H:Type}{enc:TypeId×Value→H}
def arT(a b c:Int):TV:=.agg [I a,I b,I c]
theorem zjU{W:World}{b0 base:Nat}{spare:Nat→Bool}{held:Bool}{v:Value}{d:DataW H}{p:List MemPlace}(hok:Value.okWide Tryz.prog W .any b0 23 v)(h:DataW.Trod enc Tryz.prog W base spare held 23 v d p):
  ∃a b c:Int,I64 a∧I64 b∧I64 c∧∀r,RelT W (z0I W) r (arT a b c) v:=by
 have hok':∃cs,v=.agg cs∧cs.size=Tryz.prog.cellsOf 23:=by
  simp only[Value.okWide,Tryz.underlying23]at hok;obtain⟨cs,h1,h2,_⟩:=hok;exact⟨cs,h1,h2⟩
 obtain⟨cs,rfl,hsz⟩:=hok';obtain⟨cs⟩:=cs;obtain⟨c0,c1,c2,rfl⟩:=zpm (show cs.length=3 from hsz.trans (by kernel_rfl));obtain⟨fuel,hf⟩:=h;obtain⟨y0,y1,y2,m,_,hy0,hy1,hy2⟩:=trod_array3 Tryz.underlying23 (by kernel_rfl) hf;obtain⟨k0,e0,_,w0⟩:=DataW.trod_int Tryz.underlying3 hy0;obtain⟨k1,e1,_,w1⟩:=DataW.trod_int Tryz.underlying3 hy1;obtain⟨k2,e2,_,w2⟩:=DataW.trod_int Tryz.underlying3 hy2;simp at e0 e1 e2;subst e0 e1 e2;refine⟨k0,k1,k2,bounds_i64 w0,bounds_i64 w1,bounds_i64 w2,fun r=> ?_⟩;unfold arT;refine .agg _ [_,_,_] rfl (fun j q u hq hu=> ?_) (fun u hu=> ?_)
 ·match j with
  |0=>cases hq;cases hu;exact .pv (.v _)
  |1=>cases hq;cases hu;exact .pv (.v _)
  |2=>cases hq;cases hu;exact .pv (.v _)
  |j+3=>cases hq
 ·simp at hu;rcases hu with rfl|rfl|rfl<;>rfl
end
end Go.Proofs.YtbkgnekfigknhaaGreatDoor
end

section
namespace Go.Mor
open Go
theorem zdQ(l:Ln)(i:Nat)(vals:List V)(a:Nat):∀b,z1K l i vals (a+b)=z1K l (i+a) (z1K l i vals a) b
 |0=>rfl
 |b+1=>by
  rw[←Nat.add_assoc];unfold z1K;rw[zdQ l i vals a b,Nat.add_assoc]
end Go.Mor
end

section
namespace Go.Proofs.YtbkgnekfigknhaaGreatDoor
open Go Go.RowKit Go.Mor Go.Sh Go.Sh.Cd1 Go.Sh.Cd7 Go.Sh.Cd10
theorem zaw(m:Nat)(l:List RawL)(n a0 a1 a2:Int)(vals:List Int)(hx:∀x∈l,RawLOk x)(hlen:l.length≤9223372036854775807)(hn:I64 n)(h0:I64 a0)(h1:I64 a1)(h2:I64 a2)(hv:vals.length≤9223372036854775807):
  zC (glE m) 3 [.pv (.sl 3 (rlR l)),I n,.agg [I a0,I a1,I a2],.pv (.sl 1 (iiR vals))] [] (B true) []:=by
 have HX:=za5 m;have HS:=z6F (glE m) l hx hlen;obtain⟨hs,hs4,hne⟩:=z5l l;generalize z2V l=s at*;have hsl:0<s.length:=List.length_pos_iff.2 hne;obtain⟨k,ek,hk⟩:=z3j n hsl;obtain⟨ln,eln⟩:∃x,s[k]?=some x:=⟨_,gE hk⟩
 obtain⟨hg,hg5,_⟩:=hs.g ln (gM eln);have hlo:=z5O m hg;have HL:=z6S m s (by omega) (zah m hs) (by rw[hs.r.check]) eln;obtain⟨f,ef,hf⟩:=z3j a0 (show 0<ln.hs.length+1 by omega);obtain⟨t',et,ht⟩:=z3j a1 (show 0<ln.hs.length+1-f by omega);obtain⟨m',em,hm⟩:=z3j a2 (show 0<f+t'+1-f by omega);have P0:=z3i (glE m) n (s.length:Int) hn (by omega);have P1:=z3i (glE m) a0 ((ln.hs.length+1:Nat):Int) h0 (by omega);have P2:=z3i (glE m) a1 ((ln.hs.length+1-f:Nat):Int) h1 (by omega);have P3:=z3i (glE m) a2 ((f+t'+1-f:Nat):Int) h2 (by omega);rw[ek]at P0;rw[ef]at P1;rw[et]at P2;rw[em]at P3;have A1:=z74 hlo HL (v:=f) (by omega);have A2:=z74 hlo HL (v:=f+t') (by omega);have hrf:zd (zj ln f).1=true:=z1a (z0p hg.r (by omega));have hrt:zd (zj ln (f+t')).1=true:=z1a (z0p hg.r (by omega));have hfit:=zev hrf vals (many:=3) (by decide);have HV:=z7K (glE m) (zj ln f).1 vals 3 (fun _ h=>z5x hrf h) (by have:=(z0V hrf).2;omega) hv (by decide);generalize z2z (zj ln f).1.fs vals 3=v at*;have hfm:=z4z hg.r hfit m' (by omega);have hft:=z4z hg.r hfit t' (by omega);have C1:=z3T hlo HL (fr:=f) (tt:=f+t') (by omega) (by omega) v hfit;have C2:=z3T hlo HL (fr:=f) (tt:=f+m') (by omega) (by omega) v hfit
 have C3:=z3T hlo HL (fr:=f+m') (tt:=f+t') (by omega) (by omega) (z1K ln f v m') hfm;have C4:=z3T hlo HL (fr:=f) (tt:=f) (by omega) (by omega) v hfit;rw[show f+t'-f=t' by omega]at C1;rw[show f+m'-f=m' by omega]at C2;rw[show f+t'-(f+m')=t'-m' by omega,←zdQ,show m'+(t'-m')=t' by omega]at C3;rw[show f-f=0 by omega,show z1K ln f v 0=v from rfl]at C4;have S1:=z4W (glE m) (z1K ln f v t') (fun x hx=>(z32 hft x hx).1) (by have:=z2G hft;omega);have S2:=z4W (glE m) v (fun x hx=>(z32 hfit x hx).1) (by have:=z2G hfit;omega);have HK:=z9w (z3Q m (zj ln (f+t')).1 (z1K ln f v t') (z0V hrt).1 (fun x hx=>⟨(z32 hft x hx).2,by have:=(z32 hft x hx).1.len;unfold maxLen;omega⟩) (by have:=z2G hft;omega));rw[hft.chk]at HK;have w1:=wS ln.hs.length;have w2:IntKind.i64.wrap (((ln.hs.length+1:Nat):Int) - (f:Int))=((ln.hs.length+1-f:Nat):Int):=wG;have w3:IntKind.i64.wrap ((f:Int)+(t':Int))=((f+t':Nat):Int):=wG;have w4:=wS (f+t');have w5:IntKind.i64.wrap (((f+t'+1:Nat):Int) - (f:Int))=((f+t'+1-f:Nat):Int):=wG;have w6:IntKind.i64.wrap ((f:Int)+(m':Int))=((f+m':Nat):Int):=wG;have hc8:=(z0V hrf).2;generalize(zj ln f).1=c at*;generalize(zj ln (f+t')).1=d at*;generalize z1K ln f v t'=once at*
 generalize z1K ln f v m'=half at*;refine za tf_121 ?_;unfold z50 scT clT B at*;simp only[vW,seval];refine z8 HX ?_;refine z8 HS ?_;simp only[vW,seval,z0d];refine z7 P0 ?_;have d0:(k:Int)<(s.length:Int):=by omega
 simp only[vW,seval,z0d,z1t,eln,lnR,z0n,d0,w1];refine z7 P1 ?_;simp only[vW,seval,w1,w2];refine z7 P2 ?_;simp only[vW,seval,w3,w4,w5];refine z7 P3 ?_;simp only[vW,seval,w6];refine z8 A1 ?_;refine z8 A2 ?_;have d8:¬(8:Int)<((flR c.fs).length:Int):=by rw[z1R];omega
 refine⟨fun h=>absurd h d8,fun _=> ?_⟩;refine z8 HV ?_;refine z8 C1 ?_;refine z8 C2 ?_;refine z8 C3 ?_;refine z8 C4 ?_;refine z8 HK ?_;refine z8 S1 ?_;exact ze S2
end Go.Proofs.YtbkgnekfigknhaaGreatDoor
end
