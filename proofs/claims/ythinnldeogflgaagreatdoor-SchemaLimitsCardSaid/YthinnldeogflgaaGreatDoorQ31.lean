/- Merged texts: WrapB Open0 RawD Pk4 RawHD Pv1 Pk2 Pk5 Ln1 Ln2 Ln3 S31 Pk6 Pk7 Ln4 Cd10 Ya1. No statement of the program is proved here. -/
import Derived.Test.YthinnldeogflgaaGreatDoorQ29
import Derived.Test.YthinnldeogflgaaGreatDoorCards
import Derived.Test.YthinnldeogflgaaGreatDoorTie
import Derived.Lib.LaidIn
import Derived.Lib.LaidU8T
import Derived.Deep.DeepHandedRow
import Derived.Deep.DeepWitnessRowRef
import Derived.ProofKit
import Derived.SizedLaws
import Derived.OpenShut
import Derived.Stop.LaidTwo
import Derived.Deep.Slices
import Derived.Deep.Fields
import Derived.ChangeSame
import Derived.SevenTiedAt
import Derived.PinnedBridge
import Derived.Shelf.Vars
set_option linter.unusedSimpArgs false
set_option linter.unusedVariables false
set_option maxRecDepth 100000
set_option maxHeartbeats 8000000
section
namespace Go.Proofs.YthinnldeogflgaaGreatDoor
open Go.ChangeShapes Go.WideShapes Go.ChangeAt Go.RowKit Go.Lib Go.Mor Go.Deep
open Go.ChangeMaps (open_string shut_string)
theorem own:ownKnob Tryz.prog.godebug=none:=by kernel_rfl
theorem zl6:Rows.laid_unicode_utf8_acceptRanges=Lib.acceptData:=by kernel_rfl
theorem zmw{W:World}(h:W.ShapedOpen Tryz.prog):10≤W.heap.size:=by
 obtain⟨o,o0,h1,_⟩:=h.2 10 (of_decide_eq_true (by kernel_rfl)) (of_decide_eq_true (by kernel_rfl));exact Nat.le_of_lt (gA h1).1
theorem zis{W:World}{L:List (String×DataW Unit)}(hL:laidMet Tryz.prog L W)(h1:("unicode/utf8.first",Rows.laid_unicode_utf8_first)∈L)(h2:("unicode/utf8.acceptRanges",Rows.laid_unicode_utf8_acceptRanges)∈L):GlobU W:=
 ⟨utf8Tabs_of_readsT (U8Types.of196 Tryz.laysValid) ⟨by kernel_rfl,by kernel_rfl,by kernel_rfl,by kernel_rfl,by kernel_rfl,by kernel_rfl,by kernel_rfl⟩ (by rw[←Pinned.utf8First_eq];exact Lib.laidMet.reads hL h1) (by rw[←zl6];exact Lib.laidMet.reads hL h2)⟩
def zci:DataW Unit→List Value
 | .agg l=>l.map fun x=>match x with| .lit y=>y.value|_=>undef
 |_=>[]
def z9M:DataW Unit→zB
 | .iface _ (.ptr (.agg [.lit (.string l)]))=>l
 |_=>[]
noncomputable def z5b(os:Os):World:=
 let N:=(World.settled Tryz.prog os).heap.size
 let w0:=World.holding Tryz.prog os ⟨#[.cells #[.string ⟨(z9M Rows.laid_moraine_wire_errEnd).toArray⟩] 336,.cells #[.string ⟨(z9M Rows.laid_moraine_wire_errForm).toArray⟩] 336,.cells #[.string ⟨(z9M Rows.laid_strconv_ErrRange).toArray⟩] 336,.cells #[.string ⟨(z9M Rows.laid_strconv_ErrSyntax).toArray⟩] 336],#[],[]⟩
 let put (h:Array Obj) (g:Nat) (cs:Array Value):Array Obj:=h.modify g fun
  | .cells _ t frozen=> .cells cs t frozen
  |o=>o
 let h:=w0.heap
 let h:=put h 8 (zci Rows.laid_math_bits_deBruijn32tab).toArray
 let h:=put h 9 (zci Rows.laid_math_bits_deBruijn64tab).toArray
 let h:=put h 5 (zci Rows.laid_internal_strconv_uint64pow10).toArray
 let h:=put h 3 ((List.range 16).flatMap fun i=>[Value.int .u8 (Lib.accLo i),Value.int .u8 (Lib.accHi i)]).toArray
 let h:=put h 7 #[.iface 334 (.pointer (some ⟨N+2,0,none⟩))]
 let h:=put h 6 #[.iface 334 (.pointer (some ⟨N+3,0,none⟩))]
 let h:=put h 2 (Lib.firstTab.map fun z=>Value.int .u8 z).toArray
 let h:=put h 1 #[.iface 334 (.pointer (some ⟨N,0,none⟩))]
 let h:=put h 0 #[.iface 334 (.pointer (some ⟨N+1,0,none⟩))]
 { w0 with heap:=h }
noncomputable abbrev N0:Nat:=(World.settled Tryz.prog default).heap.size
theorem zkq:laidOutB Tryz.prog=true:=by kernel_rfl
section
variable{H:Type}{enc:TypeId×Value→H}
theorem zbn{W W':World}(hb:Below W.heap.size W W'){sp:Nat→Bool}:∀{ts:List TypeId} {vs:List Value} {ds:List (DataW H)} {ps:List MemPlace},
  (ts.all fun t=>Tryz.prog.readableRec t&&decide (t<Tryz.prog.types.size))=true→DataW.TrodAll enc Tryz.prog W 0 (fun _=>true) true ts vs ds ps→(∀x∈ps,x.block<W.heap.size)→(∀x∈ps,sp x.block=true)→
  DataW.TrodAll enc Tryz.prog W' 0 sp true ts vs ds ps:=by
 intro ts
 induction ts with
 |nil=>
  intro vs ds ps _ h _ _;obtain⟨rfl,rfl,rfl⟩:=trodAll_nil h;exact trodAll_mk0
 |cons t ts ih=>
  intro vs ds ps hr h hlt hsp;obtain⟨v,vs',d,ds',p,q,rfl,rfl,rfl,h1,h2⟩:=trodAll_cons h;simp only[List.all_cons,Bool.and_eq_true,decide_eq_true_iff]at hr;refine trodAll_cons_mk (WideElems.Trod_stays zkq hr.1.1 hr.1.2 h1 (fun x hx=>hb.same (hlt x (by simp[hx]))) (fun x hx=>hsp x (by simp[hx]))) (ih hr.2 h2 (fun x hx=>hlt x (by simp[hx])) (fun x hx=>hsp x (by simp[hx])))
theorem zbf{P:Program}{f:Func}{s:ChangeSpec}{z1O fresh handsOn again:Bool}{W W':World}{args:Array Value}{v:Value}{ds gs:List (DataW H)}{before pa pv:List MemPlace}
  (hW:DataW.Whole enc P f.params.toList s.vars z1O W args.toList ds gs before)
  (hres:∀(b:Nat) (sp:Nat→Bool) (hd:Bool),DataW.TrodAll enc P W' b sp hd f.resultTypes.toList (v.resultList f.resultTypes.size) (s.fn H (ds++gs)).results [])
  (hargs:∀sp:Nat→Bool,(∀p∈before,sp p.block=true)→DataW.TrodAll enc P W' 0 sp true f.params.toList args.toList (s.fn H (ds++gs)).args pa)
  (hvars:∀sp:Nat→Bool,(∀p∈before,sp p.block=true)→DataW.TrodVars enc P W' sp s.vars (s.fn H (ds++gs)).vars pv)
  (hps:before=pa++pv) (hb:Below W.heap.size W W')
  (hok:∀(j:Nat) (t:TypeId) (r:Value),f.resultTypes[j]?=some t→(v.resultList f.resultTypes.size)[j]?=some r→Value.okWide P W' .any 0 t r):
  s.post enc P f z1O fresh handsOn again W args v W':=by
 have hlt:∀p∈before,p.block<W.heap.size:=fun p hp=>hW.lt p hp;have hold:∀p∈before,(fun b=>decide (b<W.heap.size)) p.block=true:=fun p hp=>by simpa using hlt p hp
 refine⟨ds,gs,before,[],pa,pv,hW,hres _ _ _,hargs _ hold,hvars _ hold,World.keptBut_mono (fun p hp=>⟨hp,?_⟩) (hb.frame (·∈before)),fun _=> ?_⟩
 ·rw[hps,List.mem_append]at hp;exact Or.inr hp
 ·obtain⟨_,_,_,_,_,hz,hn⟩:=hW;refine⟨hok,_,_,([]++pa)++pv,⟨[]++pa,pv,trodAll_append (hargs _ (fun _ _=>rfl)) (hres _ _ _),hvars _ (fun _ _=>rfl),rfl,?_,?_⟩,?_⟩
  ·intro b off hp;have hin:MemPlace.cell b off∈before:=by rw[hps];simpa using hp
   rw[hb.frozen (hlt _ hin)];exact hz b off hin
  ·intro ha;have:=hn ha;rw[hps]at this;simpa using this
  ·intro p hp _;rw[hps];simpa using hp
theorem zmz(f:FuncId)(fn:Func)(sp:ChangeSpec){W W':World}{args:Array Value}{ds gs:List (DataW H)}{before:List MemPlace}{fresh handsOn again:Bool}
  (hv:sp.vars=[]) (hr:(fn.params.toList.all fun t=>Tryz.prog.readableRec t&&decide (t<Tryz.prog.types.size))=true) (hres:fn.resultTypes= #[4])
  (hfn:sp.fn H (ds++[])={ results:=[.lit (.bool true)],args:=ds })
  (hW:DataW.Whole enc Tryz.prog fn.params.toList sp.vars false W args.toList ds gs before) (hb:Below W.heap.size W W'):
  sp.post enc Tryz.prog fn false fresh handsOn again W args (.bool true) W':=by
 have hW':=hW;obtain⟨p,q,hA,hV,rfl,_,_⟩:=hW;rw[hv]at hV;obtain⟨rfl,rfl⟩:=trodVars_none hV;have hlt:∀x∈p,x.block<W.heap.size:=fun x hx=>hW'.lt x (by simp[hx]);refine zbf (pa:=p) (pv:=[]) hW' (fun b sp' hd=> ?_) (fun sp' hsp=> ?_) (fun sp' hsp=> ?_) rfl hb ?_
 ·rw[hfn,hres];exact trodAll_mk1 (shut_bool Tryz.underlying4 _)
 ·rw[hfn];exact zbn hb hr hA hlt (fun x hx=>hsp x (by simp[hx]))
 ·rw[hfn,hv];rfl
 ·exact ok_one hres rfl (okWide_bool_mk Tryz.underlying4 _)
end
end Go.Proofs.YthinnldeogflgaaGreatDoor
end

section
namespace Go.Proofs.YthinnldeogflgaaGreatDoor
open Go.ChangeShapes Go.WideShapes Go.ChangeAt Go.RowKit Go.Lib Go.Mor Go.Deep Go.Joins
open Go.Sh (RelT RelV TV PV SCalls Env MSim z08 zq z1p Low)
open Go.ChangeMaps (open_string shut_string)
def z6F(w:World):Env:=⟨fun k _=>k<w.heap.size,fun _=>0,fun _=>none,fun _=>0⟩
theorem z2t(d:Nat):z08 [] d=none:=by simp[z08]
theorem z3M(d:Nat):zq [] d=none:=by simp[zq]
theorem zdb{P:Program}{f:Nat}{xs:List TV}{vs:List Value}{w:World}{g:Go.Sh.Glob}{b:Value}(h:SCalls P g f xs [] (.pv (.v b)) [])(hG:g.G w)(hl:xs.length=vs.length)
  (hr:∀(j:Nat) x v,xs[j]?=some x→vs[j]?=some v→RelT w (z6F w) (zq []) x v):Calls P f vs.toArray w fun e w'=>e=.returned b∧Below w.heap.size w w':=by
 have hX:∀d k,¬z1p (z6F w) [] d k:=by
  rintro d k (⟨cs,h1,_⟩|⟨q,cap,h1,_⟩)
  ·rw[z2t]at h1;cases h1
  ·rw[z3M]at h1;cases h1
 refine(h.2 w (z6F w) vs hG ?_ (fun d k hd=>absurd hd (hX d k)) hl hr).mono ?_
 ·refine⟨fun d cs hd=> ?_,fun d e W n hd=> ?_,fun d d' cs cs' hd=> ?_,fun d d' cs q k cap hd=> ?_,fun d d' q q' k cap cap' hd=> ?_,fun k o hk=>hk,⟨rfl,rfl,rfl,Nat.le_refl _,fun _ _ _=>rfl⟩,fun k o u hk hu=>⟨hk,hu⟩,fun k o hk=> .inl hk,?_⟩
  ·rw[z2t]at hd;cases hd
  ·rw[z3M]at hd;cases hd
  ·rw[z2t]at hd;cases hd
  ·rw[z2t]at hd;cases hd
  ·rw[z3M]at hd;cases hd
  ·have hold:∀d,¬(Go.Sh.start w (z6F w) [] 0).old d:=fun d h=>by have h1:1000≤d∧d<1000+0:=h;omega
   constructor<;>(intros;first|(exfalso;apply hold;assumption)|rfl)
 ·rintro e w' ⟨v,E',rfl,hm,hv,_⟩;obtain rfl:=Go.Sh.val_rel (y:=b) hv rfl;exact⟨rfl,hm.low.os,hm.low.tape,hm.low.output,hm.low.size,fun k hk=>hm.low.block k hk (fun d=>hX d k)⟩
end Go.Proofs.YthinnldeogflgaaGreatDoor
end

section
namespace Go.Proofs.YthinnldeogflgaaGreatDoor
open Go Go.RowKit Go.Mor Go.Sh
structure RawOk(x:Raw):Prop where
 n:I64 x.n
 fs:∀r∈x.fs,I64 r.n∧I64 r.k∧I64 r.o
 len:x.fs.length≤9223372036854775807
end Go.Proofs.YthinnldeogflgaaGreatDoor
end

section
namespace Go.Mor
open Go
structure RawH where
 k:Int
 f:Int
 n:Int
 m:Int
 t:Ty
 x:Int
 o:Int
def nmL:List (zB):=[[97],[98,50],[110,97,109,101],[110,101,120,116,95,111,110,101],[107,105,100,115],[120],[110,101,119,95,49],[109,111,114,101],[122,57],[113,117,105,116,101,95,110,101,119]]
def numL:List (zB):=[55]::nmL
def txtL:List (zB):=[34,97,32,98,34]::nmL
def exA(a:zB):List (zB):=[a++[32,42,32,50,32,45,32,49],[105,102,40]++a++[32,62,32,50,44,32]++a++[44,32,48,32,45,32]++a++[41],a++[32,47,32]++a,[116,101,120,116,40]++a++[41]]
def exB(b:zB):List (zB):=[[108,101,110,40]++b++[41],[102,105,110,100,40,34,98,34,44,32]++b++[41],b++[32,38,32,34,45,34,32,38,32]++b,[108,101,102,116,40]++b++[44,32,50,41],[102,114,111,109,40]++b++[44,32,51,41]]
def exC(a b:zB):zB:=[105,102,40]++a++[32,61,32,49,44,32]++b++[44,32,34,110,111,34,41]
def exN:List (zB):=[55]::[34,97,32,98,34]::nmL++[[51],[34,120,34]]
def exL:List (zB):=exN++numL.flatMap exA++txtL.flatMap exB++numL.flatMap fun a=>txtL.map (exC a)
end Go.Mor
end

section
namespace Go.Proofs.YthinnldeogflgaaGreatDoor
open Go Go.RowKit Go.Mor Go.Sh
structure RawHOk(r:RawH):Prop where
 k:I64 r.k
 f:I64 r.f
 n:I64 r.n
 m:I64 r.m
 tk:I64 r.t.k
 ot:I64 r.t.o
 x:I64 r.x
 o:I64 r.o
end Go.Proofs.YthinnldeogflgaaGreatDoor
end

section
namespace Go.Mor
open Go
section
open Go.RowKit
theorem GoodC.type{c:Cls}(h:GoodC c){f:Fld}(hf:f∈c.fs):zM f.t=true:=by
 have:=(h.fs f hf).1;unfold zQ at this
 grind
end
structure FitC(c:Cls)(vals:List V):Prop where
 r:zd c=true
 len:vals.length=c.fs.length
 fit:∀(i:Nat) f v,c.fs[i]?=some f→vals[i]?=some v→zA v f.t=true
theorem FitC.chk{c:Cls}{vals:List V}(h:FitC c vals):check c vals=(0,0):=zi5 h.r h.len h.fit
theorem zkO{c:Cls}{vals:List V}{h:Chg}(hf:FitC c vals)(hw:z1Q h=true)(hm:z1x c h=true):z09 c h=(⟨c.n,z18 c h⟩,0)∧z5o c h vals=(z0Z c h vals,0):=by
 have ho:okV c h=true:=by unfold okV;rw[hf.r,hw,hm];rfl
 unfold z09 z5o;rw[hf.chk,ho,hf.r];simp
theorem zcE{α:Type}{l:List α}{i:Nat}(h:i<l.length)(x:α):z0r l i [x]=l.set i x:=by
 grind [z0r,List.set_eq_take_append_cons_drop,List.append_assoc]
def z8t(q:zB)(t:Ty):Chg:=⟨1,[],q,[],t,[],[]⟩
theorem z6l{c:Cls}(h:zd c=true){i:Nat}{f:Fld}(hi:c.fs[i]?=some f):zk f.n=true∧fieldAt c.fs f.n=i∧zQ f=true∧i<c.fs.length:=by
 have:=(z1n c).1 h;have hf:=this.2.2.1 f (gM hi);unfold zQ at hf
 grind [zdP,List.getElem?_eq_some_iff]
theorem zgz{l:List Fld}{s:zB}(h:fieldAt l s<0)(b:zB):z2i l s b=true:=by grind [z2i]
theorem zlK{l:List Fld}{s:zB}(h:∀f∈l,f.n≠s):fieldAt l s<0:=(z3Y _ _).2 fun f hf=>by simpa using h f hf
theorem z0y{l:List Fld}{i:Nat}{f:Fld}(h:l[i]?=some f):l.getD i za2=f:=by grind
theorem zfW{c:Cls}{vals:List V}(h:FitC c vals){q:zB}{t:Ty}(hq:zk q=true)(hn:∀g∈c.fs,g.n≠q)(ht:zM t=true)(hl:c.fs.length<8):
  z09 c (z8t q t)=(⟨c.n,c.fs++[⟨q,t,false⟩]⟩,0)∧z5o c (z8t q t) vals=(vals++[z3B t],0)∧FitC ⟨c.n,c.fs++[⟨q,t,false⟩]⟩ (vals++[z3B t]):=by
 have hr:=(z1n c).1 h.r;have hne:=zlK hn;have:=zkO (h:=z8t q t) h (by grind [z1Q,z1v,z8t,z2E,z63]) (by grind [z1x,z8t,zgz,zt,Tl.is]);rw[this.1,this.2];refine⟨by simp[z18,z8t],by simp[z0Z,z8t,zt,Tl.val],(z1n _).2 ⟨hr.1,by simp;omega,fun f hf=> ?_,zgc hr.2.2.2 hne⟩,by simp[h.len],fun i f v hi hv=> ?_⟩
 ·grind [List.mem_singleton,zQ]
 ·dsimp only at hi
  have hl:=h.len;rw[List.getElem?_append]at hi hv;split at hi
  ·rw[if_pos (by omega)]at hv;exact h.fit _ _ _ hi hv
  ·grind [z6H]
theorem z30{α:Type}{l gs:List α}{i:Nat}(h:i≤l.length):(z0r l i gs).length=l.length+gs.length-(if i<l.length then 1 else 0):=by
 unfold z0r
 grind
theorem z6f{α:Type}{l gs:List α}{i:Nat}(h:i≤l.length)(j:Nat):(z0r l i gs)[j]?=if j<i then l[j]? else if j<i+gs.length then gs[j-i]? else l[j-gs.length+1]?:=by
 grind [List.length_take,z0r,List.append_assoc]
structure Put(c:Cls)(h:Chg)(vals:List V)(i:Nat)(gs:List Fld)(ws:List V):Prop where
 le:i≤c.fs.length
 fs:z18 c h=z0r c.fs i gs
 vs:z0Z c h vals=z0r vals i ws
 len:gs.length=ws.length
 few:(z0r c.fs i gs).length≤8
 new:∀(j:Nat) f,c.fs[j]?=some f→j≠i→∀g∈gs,f.n≠g.n
 dist:z6w gs
 right:∀g∈gs,zQ g=true
 fit:∀(j:Nat) g w,gs[j]?=some g→ws[j]?=some w→zA w g.t=true
 own:∀f,c.fs[i]?=some f→f.n=h.f
theorem Put.fits{c:Cls}{h:Chg}{vals:List V}{i:Nat}{gs:List Fld}{ws:List V}(hp:Put c h vals i gs ws)(hf:FitC c vals):FitC ⟨c.n,z18 c h⟩ (z0Z c h vals):=by
 have hr:=(z1n c).1 hf.r;have hle:=hp.le;have hl:=hf.len;have hln:=hp.len;rw[hp.fs,hp.vs];refine⟨(z1n _).2 ⟨hr.1,hp.few,fun f hm=> ?_,fun a b f g ha hb he=> ?_⟩,?_,fun j f v hj hv=> ?_⟩
 ·unfold z0r at hm;simp only[List.mem_append]at hm;rcases hm with(hm|hm)|hm
  ·grind
  ·exact hp.right f hm
  ·grind
 ·dsimp only at ha hb
  rw[z6f hle]at ha hb;have hd:=hr.2.2.2;split at ha
  ·split at hb
   ·exact hd a b f g ha hb he
   ·split at hb
    ·exact absurd he (hp.new a f ha (by omega) g (gM hb))
    ·have:=hd _ _ f g ha hb he;omega
  ·split at ha
   ·split at hb
    ·exact absurd he.symm (hp.new b g hb (by omega) f (gM ha))
    ·split at hb
     ·have:=hp.dist _ _ f g ha hb he;omega
     ·exact absurd he.symm (hp.new _ g hb (by omega) f (gM ha))
   ·split at hb
    ·have:=hd _ _ f g ha hb he;omega
    ·split at hb
     ·exact absurd he (hp.new _ f ha (by omega) g (gM hb))
     ·have:=hd _ _ f g ha hb he;omega
 ·dsimp only
  grind [z30]
 ·dsimp only at hj
  rw[z6f hle]at hj;rw[z6f (by omega)]at hv;split at hj
  ·rw[if_pos (by assumption)]at hv;exact hf.fit _ _ _ hj hv
  ·rw[if_neg (by assumption)]at hv;split at hj
   ·rw[if_pos (by omega)]at hv;exact hp.fit _ _ _ hj hv
   ·rw[if_neg (by omega),←hln]at hv;exact hf.fit _ _ _ hj hv
theorem Put.news{c:Cls}{h:Chg}{vals:List V}{i:Nat}{gs:List Fld}{ws:List V}(hp:Put c h vals i gs ws)(hf:FitC c vals){j:Nat}{f:Fld}{v:V}(hj:gs[j]?=some f)(hv:ws[j]?=some v):
  (z18 c h)[i+j]?=some f∧(z0Z c h vals)[i+j]?=some v:=by
 have hle:=hp.le;have hl:=hf.len;rw[hp.fs,hp.vs]
 grind [z6f,Nat.add_sub_cancel_left]
theorem z5l{c:Cls}{vals:List V}(hf:FitC c vals){s:zB}{t:Ty}(ht:zM t=true)(h:(zt c s t).is=true):zA ((zt c s t).val c t vals) t=true:=by
 unfold zt at h ⊢;split at h
 ·rw[if_pos (by assumption)];exact z6H t ht
 rename_i hs;rw[if_neg hs];split at h
 ·cases h
 rename_i he;rw[if_neg he];split at h
 ·rename_i hT;rw[if_pos hT];obtain⟨h0,h1⟩:=hT;generalize(rdV s).1=e at*;have hr:=(z1n c).1 hf.r;have hfa:z5E c.fs vals:=⟨fun f hm=>by have:=hr.2.2.1 f hm;unfold zQ at this;simp at this;exact this.1.2,hf.len,hf.fit⟩
  have hev:z3i c vals e=(z1h c.fs vals 8 e,0):=by
   unfold z3i;rw[h0,hf.chk];rfl
  show zA (z3i c vals e).1 t=true;unfold z40 at h0 h1;split at h0
  ·rename_i hre;split at h0
   ·rename_i hrc;split at h0
    ·rename_i hty;have e1:(z0A c.fs 8 e).1=t:=by
      generalize(z0A c.fs 8 e).1=u at h1;obtain⟨k,o⟩:=u;obtain⟨k',o'⟩:=t
      grind [z0B]
     unfold z1Y at hre
     grind [z60]
    ·cases h0
   ·cases h0
  ·cases h0
 ·cases h
theorem za4{c:Cls}{s b:zB}(h:z2i c.fs s b=true){j:Nat}{f:Fld}(hj:c.fs[j]?=some f)(hne:f.n≠b):f.n≠s:=by
 rintro rfl;unfold z2i at h
 grind [fieldAt,z3Y,List.mem_of_getElem?]
theorem z3o{c:Cls}{s:zB}(h:z1c c.fs s=true):∃f,c.fs[atV c.fs s]?=some f∧f.n=s:=by
 unfold z1c at h;simp at h;unfold atV;unfold fieldAt at*;obtain⟨k,hk⟩:=Int.eq_ofNat_of_zero_le (show 0≤z0x (fun f:Fld=>f.n==s) c.fs by omega);obtain⟨f,h1,h2⟩:=z3j (fun f:Fld=>f.n==s) c.fs k hk
 grind
theorem z5W(g:Fld):z6w [g]:=fun a b f h ha hb _=>by
 grind
theorem zia{g k:Fld}(hne:g.n≠k.n):z6w [g,k]:=fun a b f h ha hb he=>by
 match a,b with
 |0,0=>rfl
 |1,1=>rfl
 |0,1=>grind
 |1,0=>grind
 |0,b+2=>simp at hb
 |1,b+2=>simp at hb
 |a+2,_=>simp at ha
theorem zfu{n:zB}{t:Ty}(hn:zk n=true)(ht:zM t=true):zQ ⟨n,t,false⟩=true:=by grind [zQ]
theorem zgY{c:Cls}{h:Chg}{vals:List V}(hf:FitC c vals)(ho:okV c h=true):∃i gs ws,Put c h vals i gs ws∧
  ((h.k=1∨h.k=5)→gs[0]?=some ⟨h.n,h.t,false⟩∧ws[0]?=some ((zt c h.x h.t).val c h.t vals))∧(h.k=4→gs[0]?=some ⟨h.f,h.t,false⟩∧ws[0]?=some ((zt c h.x h.t).val c h.t vals)):=by
 have hr:=(z1n c).1 hf.r;have hlen:=hf.len;unfold okV at ho;simp at ho;obtain⟨⟨_,hw⟩,hm⟩:=ho;have hd:=hr.2.2.2;have hsame:∀{j:Nat} {f:Fld},c.fs[j]?=some f→j≠atV c.fs h.f→z1c c.fs h.f=true→f.n≠h.f:=fun {j f} hj hne hh e=>by
  obtain⟨g,hg,he⟩:=z3o hh;exact hne (hd j _ f g hj hg (by rw[e,he]))
 have hk:h.k=1∨h.k=2∨h.k=3∨h.k=4∨h.k=5∨h.k=6:=by
  grind [z1Q,z1v]
 unfold z1Q at hw;rcases hk with k|k|k|k|k|k
 ·simp only[k,z1v,z1x,if_true,z2E,Bool.and_eq_true,decide_eq_true_eq]at hw hm;obtain⟨⟨h8,hfr⟩,hx⟩:=hm;refine⟨c.fs.length,[⟨h.n,h.t,false⟩],[(zt c h.x h.t).val c h.t vals],⟨Nat.le_refl _,?_,?_,rfl,?_,fun j f hj hne g hg=> ?_,z5W _,fun g hg=> ?_,fun j g w hj hw'=> ?_,fun f hj=> ?_⟩,fun _=>⟨rfl,rfl⟩,fun h4=>by omega⟩
  ·simp[z18,k,z0r]
  ·simp[z0Z,k,z0r,←hlen]
  ·rw[z30 (Nat.le_refl _),if_neg (by omega)];simp;omega
  ·obtain rfl:=List.mem_singleton.1 hg;refine za4 hfr hj fun e=> ?_;have:=(z6l hf.r hj).1;rw[e]at this;exact absurd this (by decide)
  ·grind [List.mem_singleton,zfu]
  ·grind [z5l]
  ·grind
 ·simp only[k,z1x,show ¬(2:Int)=1 by decide,if_false,if_true]at hm;obtain⟨f,ef,en⟩:=z3o hm;have hlt:=(gJ ef).1;refine⟨atV c.fs h.f,[],[],⟨by omega,by simp[z18,k],by simp[z0Z,k],rfl,?_,fun j f hj hne g hg=>by simp at hg,fun a b f g ha=>by simp at ha,fun g hg=>by simp at hg,fun j g w hj=>by simp at hj,fun y hy=> ?_⟩,fun h4=>by omega,fun h4=>by omega⟩
  ·grind [z30]
  ·grind
 ·simp only[k,z1v,z1x,show ¬(3:Int)=1 by decide,show ¬(3:Int)=2 by decide,show ¬(3:Int)=6 by decide,false_or,if_false,if_true,z2E,Bool.and_eq_true]at hw hm;obtain⟨hh,hfr⟩:=hm;obtain⟨f,ef,en⟩:=z3o hh;have hlt:=(gJ ef).1;obtain⟨v,ev⟩:∃v,vals[atV c.fs h.f]?=some v:=⟨_,gE (by omega)⟩
  have h3:=(z6l hf.r ef).2.2.1;refine⟨atV c.fs h.f,[⟨h.n,f.t,f.ix⟩],[v],⟨by omega,by simp[z18,k,ef],?_,rfl,?_,fun j y hj hne g hg=> ?_,z5W _,fun g hg=> ?_,fun j g w hj hw'=> ?_,fun y hy=> ?_⟩,fun h4=>by omega,fun h4=>by omega⟩
  ·grind [zcE,atV,List.getElem?_eq_some_iff,List.set_getElem_self,z0Z]
  ·grind [z30]
  ·obtain rfl:=List.mem_singleton.1 hg;refine za4 hfr hj fun e=> ?_;have:=(z6l hf.r hj).1;rw[e]at this;exact absurd this (by decide)
  ·grind [List.mem_singleton,zQ]
  ·cases j with
   |zero=>simp at hj hw';subst hj;subst hw';exact(show zA _ f.t=true from hf.fit _ _ _ ef ev)
   |succ j=>simp at hj
  ·grind
 ·simp only[k,z1v,z1x,show ¬(4:Int)=1 by decide,show ¬(4:Int)=2 by decide,show ¬(4:Int)=6 by decide,show ¬(4:Int)=3 by decide,false_or,if_false,if_true,z2E,Bool.and_eq_true]at hw hm;obtain⟨hh,hx⟩:=hm;obtain⟨f,ef,en⟩:=z3o hh;have hlt:=(gJ ef).1;refine⟨atV c.fs h.f,[⟨f.n,h.t,false⟩],[(zt c h.x h.t).val c h.t vals],⟨by omega,by simp[z18,k,ef],by simp[z0Z,k],rfl,?_,fun j y hj hne g hg=> ?_,z5W _,fun g hg=> ?_,fun j g w hj hw'=> ?_,fun y hy=> ?_⟩,fun h4=>by omega,fun _=>⟨by rw[en];rfl,rfl⟩⟩
  ·grind [z30]
  ·grind
  ·grind [List.mem_singleton,zfu]
  ·grind [z5l]
  ·grind
 ·simp only[k,z1v,z1x,show ¬(5:Int)=1 by decide,show ¬(5:Int)=2 by decide,show ¬(5:Int)=6 by decide,show ¬(5:Int)=3 by decide,show ¬(5:Int)=4 by decide,false_or,if_false,if_true,z2E,Bool.and_eq_true,decide_eq_true_eq]at hw hm;obtain⟨⟨⟨⟨⟨⟨hh,h8⟩,hnm⟩,hfr⟩,hfr2⟩,hx⟩,hx2⟩:=hm;have hnm:h.n≠h.m:=by grind
  obtain⟨f,ef,en⟩:=z3o hh;have hlt:=(gJ ef).1;refine⟨atV c.fs h.f,[⟨h.n,h.t,false⟩,⟨h.m,h.t,false⟩],[(zt c h.x h.t).val c h.t vals,(zt c h.o h.t).val c h.t vals],⟨by omega,by simp[z18,k],by simp[z0Z,k],rfl,?_,fun j y hj hne g hg=> ?_,zia hnm,fun g hg=> ?_,fun j g w hj hw'=> ?_,fun y hy=> ?_⟩,fun _=>⟨rfl,rfl⟩,fun h4=>by omega⟩
  ·grind [z30]
  ·simp at hg
   grind [za4]
  ·simp at hg
   grind [zfu]
  ·match j with
   |0=>grind [z5l]
   |1=>grind [z5l]
   |j+2=>simp at hj
  ·grind
 ·simp only[k,z1x,show ¬(6:Int)=1 by decide,show ¬(6:Int)=2 by decide,show ¬(6:Int)=3 by decide,show ¬(6:Int)=4 by decide,show ¬(6:Int)=5 by decide,if_false,Bool.and_eq_true,decide_eq_true_eq]at hm;obtain⟨hh,hk3⟩:=hm;obtain⟨f,ef,en⟩:=z3o hh;have hlt:=(gJ ef).1;obtain⟨v,ev⟩:∃v,vals[atV c.fs h.f]?=some v:=⟨_,gE (by omega)⟩
  have h3:=(z6l hf.r ef).2.2.1;refine⟨atV c.fs h.f,[⟨f.n,f.t, !f.ix⟩],[v],⟨by omega,by simp[z18,k,ef],?_,rfl,?_,fun j y hj hne g hg=> ?_,z5W _,fun g hg=> ?_,fun j g w hj hw'=> ?_,fun y hy=> ?_⟩,fun h4=>by omega,fun h4=>by omega⟩
  ·grind [zcE,atV,List.getElem?_eq_some_iff,List.set_getElem_self,z0Z]
  ·grind [z30]
  ·grind
  ·grind [List.mem_singleton,zQ]
  ·cases j with
   |zero=>simp at hj hw';subst hj;subst hw';exact(show zA _ f.t=true from hf.fit _ _ _ ef ev)
   |succ j=>simp at hj
  ·grind
structure Ln where
 c:Cls
 hs:List Chg
def zbE(r:Cls×Int)(h:Chg):Cls×Int:=if r.2=0 then z09 r.1 h else r
theorem z50{r:Cls×Int}(h:Chg)(h0:r.2=0):zbE r h=z09 r.1 h:=if_pos h0
theorem zej{r:Cls×Int}(h:Chg)(h0:r.2≠0):zbE r h=r:=if_neg h0
def z2n(l:Ln):Cls×Int:=(l.c,if zd l.c then 0 else 40)
def zo(l:Ln)(k:Nat):Cls×Int:=(l.hs.take k).foldl zbE (z2n l)
def zZ(l:Ln):Bool:=Nat.ble l.hs.length 12&&(zo l l.hs.length).2==0
theorem z1N(l:Ln):zo l 0=z2n l:=by simp[zo]
theorem z3W{l:Ln}{k:Nat}{h:Chg}(hk:l.hs[k]?=some h):zo l (k+1)=zbE (zo l k) h:=by
 unfold zo;rw[List.take_add_one,hk,List.foldl_append];rfl
theorem z7X{l:Ln}{k:Nat}(hk:l.hs.length≤k):zo l k=zo l l.hs.length:=by
 unfold zo;rw[List.take_of_length_le hk,List.take_length]
theorem z6o{l:Ln}{k:Nat}(hk:(zo l k).2≠0):∀{n:Nat},k≤n→zo l n=zo l k
 |0,hn=>by rw[Nat.le_zero.1 hn]
 |n+1,hn=>by
  rcases Nat.lt_or_ge n k with h1|h1
  ·rw[show n+1=k by omega]
  ·have ih:=z6o hk h1;cases hx:l.hs[n]? with
   |none=>
    have:=List.getElem?_eq_none_iff.1 hx;rw[z7X (show l.hs.length≤n+1 by omega),←z7X this,ih]
   |some x=>rw[z3W hx,ih,zej x hk]
theorem z5s{l:Ln}(h:(z2n l).2=0):zd l.c=true:=by
 unfold z2n at h;by_cases hc:zd l.c=true
 ·exact hc
 ·simp[hc]at h
theorem zb7{c:Cls}(h:zd c=true):FitC c (c.fs.map fun f=>z3B f.t):=by
 refine⟨h,List.length_map _,fun i f v hf hv=> ?_⟩;rw[List.getElem?_map,hf]at hv;cases hv;have:=((z1n c).1 h).2.2.1 f (gM hf);refine z6H _ ?_;unfold zQ at this;simp only[Bool.and_eq_true]at this
 grind
theorem z5r{c:Cls}{h:Chg}(h0:(z09 c h).2=0):zd c=true∧okV c h=true∧zd (z09 c h).1=true:=by
 unfold z09 at h0;by_cases hr:zd c=true
 ·by_cases ho:okV c h=true
  ·obtain⟨i,gs,ws,hp,_⟩:=zgY (zb7 hr) ho;refine⟨hr,ho,?_⟩;unfold z09;simp only[hr,ho,Bool.not_true,Bool.false_eq_true,if_false];exact(hp.fits (zb7 hr)).r
  ·simp[hr,ho]at h0
 ·simp[hr]at h0
theorem z23{l:Ln}:∀{k:Nat},(zo l k).2=0→zd (zo l k).1=true
 |0,h=>by rw[z1N]at*;exact z5s h
 |k+1,h=>by
  cases hk:l.hs[k]? with
  |none=>
   have:=List.getElem?_eq_none_iff.1 hk;rw[z7X (show l.hs.length≤k+1 by omega),←z7X this]at*;exact z23 h
  |some x=>
   rw[z3W hk]at*;by_cases h0:(zo l k).2=0
   ·rw[z50 x h0]at*;exact(z5r h).2.2
   ·rw[zej x h0]at h;exact absurd h h0
theorem z0i{l:Ln}(h:zZ l=true){k:Nat}(hk:k≤l.hs.length):(zo l k).2=0:=by
 unfold zZ at h;simp only[Bool.and_eq_true,beq_iff_eq]at h;by_cases h0:(zo l k).2=0
 ·exact h0
 ·have:=z6o h0 hk;rw[this]at h;exact h.2
def ch0:Chg:=⟨0,[],[],[],ty0,[],[]⟩
def z6B(l:Ln)(i:Nat)(vals:List V):Nat→List V
 |0=>vals
 |n+1=>z0Z (zo l (i+n)).1 (l.hs.getD (i+n) ch0) (z6B l i vals n)
theorem zbS{l:Ln}(hr:zZ l=true){k:Nat}{h:Chg}(hk:l.hs[k]?=some h){vals:List V}(hf:FitC (zo l k).1 vals):
  okV (zo l k).1 h=true∧FitC (zo l (k+1)).1 (z0Z (zo l k).1 h vals)∧z5o (zo l k).1 h vals=(z0Z (zo l k).1 h vals,0):=by
 have hi:=(gJ hk).1;have h0:=z0i hr (k:=k) (by omega);have h1:=z0i hr (k:=k+1) (by omega);have hn:=z3W hk;rw[z50 h h0]at hn;rw[hn]at h1;obtain⟨a1,a2,_⟩:=z5r h1;obtain⟨i,gs,ws,hp,_⟩:=zgY hf a2;refine⟨a2,?_,?_⟩
 ·have:=hp.fits hf;rw[hn];unfold z09;simpa [a1,a2]using this
 ·unfold z5o;rw[hf.chk,a2];rfl
theorem zbR{l:Ln}(hr:zZ l=true){i:Nat}{vals:List V}(hf:FitC (zo l i).1 vals):∀n,i+n≤l.hs.length→FitC (zo l (i+n)).1 (z6B l i vals n)
 |0,_=>hf
 |n+1,h=>by
  have ih:=zbR hr hf n (by omega);have hk:l.hs[i+n]?=some l.hs[i+n]:=gE (by omega);have:=(zbS hr hk ih).2.1;unfold z6B;rw[List.getD_eq_getElem?_getD,hk];exact this
def z0V(ls:List Ln)(n:zB):Nat×Bool:=match ls.findIdx? (fun l=>l.c.n==n)with|some i=>(i,true)|none=>(0,false)
theorem zdR{ls:List Ln}{n:zB}{k:Nat}{x:Ln}(hx:ls[k]?=some x)(hp:(x.c.n==n)=true)(h:∀(i:Nat) y,i<k→ls[i]?=some y→(y.c.n==n)=false):z0V ls n=(k,true):=by
 have:ls.findIdx? (fun l=>l.c.n==n)=some k:=by
  grind [List.findIdx?_eq_some_iff_getElem]
 simp[z0V,this]
theorem zgx{ls:List Ln}{n:zB}(h:∀x∈ls,(x.c.n==n)=false):z0V ls n=(0,false):=by
 have:ls.findIdx? (fun l=>l.c.n==n)=none:=by
  grind [List.findIdx?_eq_none_iff]
 simp[z0V,this]
def z8T(ls:List Ln)(i:Nat)(l:Ln):Bool:=decide ((z0V ls l.c.n).1<i)|| !zZ l
def z7p(ls:List Ln):Nat→List Ln→Int×Int
 |_,[]=>(0,0)
 |i,l::r=>if z8T ls i l then(i,80)else z7p ls (i+1) r
def z3E(ls:List Ln):Int×Int:=if 8<ls.length then(8,80)else z7p ls 0 ls
theorem zbT(ls:List Ln)(i:Nat){l:Ln}(h:ls[i]?=some l):z7p ls i (ls.drop i)=if z8T ls i l then((i:Int),80)else z7p ls (i+1) (ls.drop (i+1)):=by
 obtain⟨h1,h2⟩:=gJ h;rw[List.drop_eq_getElem_cons h1,h2];rfl
structure RightS(ls:List Ln):Prop where
 len:ls.length≤8
 line:∀l∈ls,zZ l=true
 own:∀(i j:Nat) a b,ls[i]?=some a→ls[j]?=some b→a.c.n=b.c.n→i=j
theorem RightS.find{ls:List Ln}(h:RightS ls){k:Nat}{x:Ln}(hx:ls[k]?=some x):z0V ls x.c.n=(k,true):=
 zdR hx (beq_self_eq_true _) fun i y hi hy=>by
  rw[beq_eq_false_iff_ne];intro e;have:=h.own i k y x hy hx e;omega
theorem RightS.good{ls:List Ln}(h:RightS ls){k:Nat}{x:Ln}(hx:ls[k]?=some x):z8T ls k x=false:=by
 unfold z8T;rw[h.find hx,h.line x (gM hx)];simp
theorem RightS.check{ls:List Ln}(h:RightS ls):z3E ls=(0,0):=by
 unfold z3E;rw[if_neg (by have:=h.len;omega)]
 suffices ∀n i,ls.length-i=n→z7p ls i (ls.drop i)=(0,0) from by
  have:=this _ 0 rfl
  rwa [List.drop_zero]at this
 intro n
 induction n with
 |zero=>intro i hi;rw[List.drop_eq_nil_of_le (by omega)];rfl
 |succ n ih=>
  intro i hi;rw[zbT ls i (gE (show i<ls.length by omega)),h.good (gE (by omega)),if_neg (by simp)];exact ih (i+1) (by omega)
theorem za1{α:Type}{F:α→List α}:∀{l:List α},(∀x∈l,F x=[x])→l.flatMap F=l
 |[],_=>rfl
 |x::l,h=>by
  rw[List.flatMap_cons,h x (List.mem_cons_self ..),za1 fun y hy=>h y (List.mem_cons_of_mem _ hy)];rfl
theorem z5H{α:Type}{F:α→List α}{l:List α}{i:Nat}{x:α}(hx:l[i]?=some x)(h:∀(j:Nat) y,l[j]?=some y→j≠i→F y=[y]):l.flatMap F=z0r l i (F x):=by
 obtain⟨hi,rfl⟩:=gJ hx;have e:l=l.take i++l[i]::l.drop (i+1):=by rw[←List.drop_eq_getElem_cons hi,List.take_append_drop]
 have h1:(l.take i).flatMap F=l.take i:=za1 fun y hy=>by
  obtain⟨j,hj⟩:=List.getElem?_of_mem hy;rw[List.getElem?_take]at hj;split at hj
  ·exact h j y hj (by omega)
  ·cases hj
 have h2:(l.drop (i+1)).flatMap F=l.drop (i+1):=za1 fun y hy=>by
  obtain⟨j,hj⟩:=List.getElem?_of_mem hy;rw[List.getElem?_drop]at hj;exact h _ y hj (by omega)
 unfold z0r
 conv=>lhs;rw[e]
 rw[List.flatMap_append,List.flatMap_cons,h1,h2,List.append_assoc]
end Go.Mor
end

section
namespace Go.Sh
open Go Go.RowKit
def ziy:Int→Int→Bool
 | .ofNat a,.ofNat b=>Nat.beq a b
 | .negSucc a,.negSucc b=>Nat.beq a b
 |_,_=>false
theorem intB_eq:∀{a b:Int},ziy a b=true→a=b
 | .ofNat a,.ofNat b,h=>congrArg Int.ofNat (Nat.eq_of_beq_eq_true h)
 | .negSucc a,.negSucc b,h=>congrArg Int.negSucc (Nat.eq_of_beq_eq_true h)
 | .ofNat _,.negSucc _,h=>by cases h
 | .negSucc _,.ofNat _,h=>by cases h
theorem zd2{cs ds:List TV}(hl:cs.length=ds.length)(h:∀(j:Nat) c d,cs[j]?=some c→ds[j]?=some d→Wk c d):Wk (.tuple cs) (.tuple ds):=by
 intro w E r v hr;cases hr with
 |tuple _ vs hl' h'=>
  refine .tuple ds vs (by omega) fun j d v hd hv=> ?_;have hj:=(gJ hd).1;have hc:=gE (show j<cs.length by omega);exact h j _ d hc hd w E r v (h' j _ v hc hv)
end Go.Sh
end

section
namespace Go.Mor
open Go
section
open Go.Sh
def zlo(e:zB):Bool:=Nat.ble 1 e.length&&Nat.ble e.length 100&&match z2O 1000 e with
 |some r=>ziy r.2.2 0&&ziy r.2.1 0
 |none=>false
theorem zln:exL.all zlo=true:=by kernel_rfl
end
theorem zkf{e:zB}(h:e∈exL):1≤e.length∧e.length≤100∧∃r,z2O 1000 e=some r∧r.2.2=0∧r.2.1=0:=by
 have h1:=List.all_eq_true.1 zln e h;unfold zlo at h1;simp only[Bool.and_eq_true]at h1;refine⟨Nat.le_of_ble_eq_true h1.1.1,Nat.le_of_ble_eq_true h1.1.2,?_⟩;have h2:=h1.2;split at h2
 ·rename_i r hr;simp at h2;exact⟨r,hr,Go.Sh.intB_eq h2.1,Go.Sh.intB_eq h2.2⟩
 ·cases h2
structure ChIn(h:Chg):Prop where
 k:0≤h.k∧h.k≤6
 tk:0≤h.t.k∧h.t.k≤5
 ot:0≤h.t.o∧h.t.o≤4
 f:h.f.length≤20
 n:h.n.length≤20
 m:h.m.length≤20
 x:h.x=[]∨h.x∈exL
 o:h.o=[]∨h.o∈exL
def z8B(l:Ln):Cls:=(zo l l.hs.length).1
theorem zkX(c:Cls)(hs:List Chg)(h:Chg){k:Nat}(hk:k≤hs.length):zo ⟨c,hs++[h]⟩ k=zo ⟨c,hs⟩ k:=by
 unfold zo;rw[List.take_append_of_le_length hk];rfl
def zhN(s:zB):Prop:=s=[]∨(s.length≤200∧∃r,z2O 1000 s=some r)
structure ChRd(h:Chg):Prop where
 f:h.f.length≤20
 n:h.n.length≤20
 m:h.m.length≤20
 x:zhN h.x
 o:zhN h.o
theorem zel{s:zB}(h:s=[]∨s∈exL):zhN s:=by
 rcases h with h|h
 ·exact .inl h
 ·obtain⟨_,h2,r,hr,_⟩:=zkf h;exact .inr ⟨by omega,r,hr⟩
theorem ChIn.rd{h:Chg}(hi:ChIn h):ChRd h:=⟨hi.f,hi.n,hi.m,zel hi.x,zel hi.o⟩
structure RawL where
 c:Raw
 hs:List RawH
structure GoodL(l:Ln):Prop where
 r:zZ l=true
 n:∀f∈(z8B l).fs,f.n∈nmL
 h:∀h∈l.hs,ChRd h
structure GoodS(s:List Ln):Prop where
 r:RightS s
 g:∀l∈s,GoodL l∧l.hs.length≤5∧∃x,l.c=zk7 x
theorem ziF{s:List Ln}{n:zB}(h:(z0V s n).2=false):∀l∈s,l.c.n≠n:=by
 unfold z0V at h;split at h
 ·cases h
 ·rename_i hn;rw[List.findIdx?_eq_none_iff]at hn;intro l hl e;have:=hn l hl;simp[e]at this
end Go.Mor
end

section
namespace Go.Sh.Cd10
open Go Go.Sh
abbrev gQ(a:GA):Prop:=gT Go.Proofs.Tryz.prog a
theorem gK{a:GA}(h:gQ a:=by unfold gQ gT;kernel_rfl):gQ a:=h
theorem tf_105:gQ ⟨4,126,[],[],[[4],[19],[20],[0,21023],[],[24025],[9,27028,58],[26,29043],[44055],[1,5010,56],[4,10,56057],[9,58059],[1,8,60061],[],[62063],[13,65066,87],[64,67072],[73084],[5007,11014,85],[4,14,85086],[13,87088],[12,89093],[94098],[5007,11,15018,99125]],[.tmp 4],false⟩:=gK
theorem tf_106:gQ ⟨6,168,[],[],[[0],[24027],[28033],[34040],[41047],[48052],[53057],[12,58062],[1,14,63068],[69073],[74078],[20,79083],[22,84088],[2011,13,15019,21,23,89167]],[.tmp 0],false⟩:=gK
theorem tf_107:gQ ⟨8,13,[],[],[[4],[5],[6009],[1000001,6,10012]],[.tmp 4],false⟩:=gK
theorem tf_120:gQ ⟨11,59,[(16,0),(33,0),(35,0),(43,0),(54,0)],[],[[0,2,7],[13018],[19],[1,3,5,8009,20022],[7,9,20,23025],[1,3,5,8,26027],[7008,10,26,28037],[38],[1,3,5,11,39041],[3,7,11,39,42043],[1,5,44057],[12,58]],[.cell true 1 6,.tmp 7],false⟩:=gK
theorem tf_117:gQ ⟨12,20,[],[],[[0,4005],[1002,8013],[14],[6007,15016],[6007,15,17019]],[.tmp 4,.tmp 5],false⟩:=gK
theorem tf_112:gQ ⟨14,50,[(13,0),(21,0),(28,0),(40,0),(44,0),(46,0)],[],[[1000001,5],[6,11015],[16],[2003,7,17019],[5,7,17,20021],[2003,22023],[5,8,22,24030],[9,31036],[2003,37038],[2,5,37,39040],[3,41048],[10,49]],[.cell true 1 4,.tmp 5],false⟩:=gK
theorem tf_116:gQ ⟨15,23,[],[],[[0,4005],[2,8],[],[12015],[7,16019],[1,6,9011,20021],[4006,20,22],[1,9011]],[.tmp 4,.tmp 5],false⟩:=gK
theorem tf_113:gQ ⟨16,34,[],[],[[0,7],[1,3,10015],[16],[2,8009,17019],[7,9,17,20027],[2,8,28029],[2,8,28,30033]],[.cell true 2 6,.tmp 7],false⟩:=gK
theorem tf_115:gQ ⟨18,38,[],[],[[0,2003],[8010],[1,11],[2003,11012],[],[16019],[7,20027],[5006,28034],[1,4,13015,35036],[2004,35,37],[1,13015]],[.tmp 2,.tmp 3],false⟩:=gK
theorem tf_118:gQ ⟨23,10,[(9,1)],[],[[1000001,4],[2003,5009]],[.tmp 4],false⟩:=gK
theorem tf_114:gQ ⟨24,44,[],[],[[0,10011],[1,5,14019],[20],[2004,12013,21022],[10011,13,21,23035],[2004,12,36],[2004,12,36043]],[.tmp 10,.tmp 11],false⟩:=gK
theorem tf_111:gQ ⟨25,27,[],[],[[4],[6009],[1000001,10],[4,10],[11013],[4,15016,26],[14,17025],[1000001,5,26],[1000001,5]],[.tmp 4],false⟩:=gK
theorem tf_123:gQ ⟨32,32,[],[],[[0,5],[6,8012],[13],[1002,7,14016],[5,7,14,17024],[1002,25026],[1002,25,27031]],[.cell true 3 4,.tmp 5],false⟩:=gK
abbrev c_124_0:=kV [2,3,4] [kO 2 0,kO 3 1,oD 4 (.new [(.string ⟨#[]⟩),(.slice none 0 0)])] [0,1]
abbrev c_124_1:=kV [5] [oD 5 (.new [(.int .i64 0)]),oN (.st 1 (.tmp 5) (vI 0))] []
abbrev c_124_2:=kV [2032,2033,2034,2035] [oL 7 true 3 2,kC 8 63 0 7] [2,7]
abbrev c_124_3:=kR [oD 17 (.build [(.string ⟨#[]⟩),(.slice none 0 0)] []),kS 2 4 17] [3,5,8,17]
noncomputable abbrev F_124:SFunc:=⟨18,(.seq c_124_0 (.seq c_124_1 (.seq (.seq c_124_2 (.block 0 (.raw 18 (z5g Go.Proofs.Tryz.prog 34 0)))) (.seq c_124_3 .ret)))),[.cell true 2 4],false⟩
theorem tf_124:zE Go.Proofs.Tryz.prog 34 (z2S [(8,0)]) (fpT []) (z2T [(0,[0,1]),(2,[2,7]),(7,[3,5,8,17])]) false=some F_124:=by kernel_rfl
theorem tf_94:gQ ⟨35,7,[(5,1)],[],[[0],[1,3006]],[.cell true 1 2],false⟩:=gK
theorem tf_93:gQ ⟨39,8,[(5,1)],[],[[0],[3006],[1,7]],[.cell true 2 2],false⟩:=gK
abbrev c_125_0:=kV [1,2] [kO 1 0,oD 2 (.new [(.bool false)])] [0]
abbrev c_125_1:=kR [kA 5 2 1,oL 6 false 1 5,kZ 7 6,kK 8 .gtr 3 7 12] [5,6,7]
abbrev c_125_2:=kR [oN (.st 1 (.tmp 2) (.val (.bool false)))] [1,8]
abbrev c_125_3:=kV [2040,2041,2042,2043] [oL 9 true 3 1,kC 10 63 0 9] [1,8,9]
abbrev c_125_4:=kR [oN (.st 1 (.tmp 2) (.val (.bool true)))] [10]
noncomputable abbrev F_125:SFunc:=⟨15,(.seq c_125_0 (.seq (.seq c_125_1 (.cond (.tmp 8) (.seq c_125_2 .ret) .skip)) (.seq (.seq c_125_3 (.block 0 (.raw 15 (z5g Go.Proofs.Tryz.prog 41 0)))) (.seq c_125_4 .ret)))),[.cell false 1 2],false⟩
theorem tf_125:zE Go.Proofs.Tryz.prog 41 (z2S [(10,0)]) (fpT []) (z2T [(0,[0]),(1,[5,6,7]),(2,[1,8]),(3,[1,8,9]),(7,[10])]) false=some F_125:=by kernel_rfl
theorem tf_119:gQ ⟨52,17,[(15,1)],[],[[1000001,4],[2003,5016]],[.tmp 4],false⟩:=gK
abbrev c_121_0:=kV [4,5,6] [kO 4 0,kO 5 1,kO 6 2,oD 8 (.mov (.val (.slice none 0 0))),kI 9 0] [0,1,2,8,9]
abbrev c_121_1:=kV [2064,2065,2066,2067,10,11,12] [oM 15 3,kC 16 79 0 15,oD 10 (.new [(.int .i64 0)]),oD 11 (.new [(.slice none 0 0)]),oD 12 (.new [(.int .i64 0)]),oN (.st 1 (.tmp 10) (vI 0)),kS 1 11 16,oN (.st 1 (.tmp 12) (vI 0))] [3,15,16]
abbrev c_121_2:=kV [13] [oD 17 (.mkf (.func 80) [] [.tmp 10,.tmp 5,.tmp 11,.tmp 12,.tmp 6,.tmp 4]),oD 13 (.new [.nilFunc]),kS 1 13 17] [5,6,10,17]
abbrev c_121_3:=kV [2076,2077,2078,2079] [oL 18 true 3 4,kC 19 63 0 18] [4,18]
abbrev c_121_4:=kR [oL 26 false 1 12,kK 27 .neq 47 26 0] [13,19,26]
abbrev c_121_5:=kR [oL 28 false 1 12,oD 8 (.mov (.val (.slice none 0 0))),oM 9 28] [11,12,27,28]
abbrev c_121_6:=kR [oL 29 false 1 11,oM 8 29,kI 9 0] [11,12,27,29]
noncomputable abbrev F_121:SFunc:=⟨30,(.seq c_121_0 (.seq c_121_1 (.seq c_121_2 (.seq (.seq c_121_3 (.block 0 (.raw 30 (z5g Go.Proofs.Tryz.prog 55 0)))) (.seq (.seq c_121_4 (.cond (.tmp 27) (.seq c_121_5 .ret) .skip)) (.seq c_121_6 .ret)))))),[.tmp 8,.tmp 9],false⟩
theorem tf_121:zE Go.Proofs.Tryz.prog 55 (z2S [(16,0),(19,0),(24,1)]) (fpT []) (z2T [(0,[0,1,2,8,9]),(1,[3,15,16]),(2,[5,6,10,17]),(3,[4,18]),(6,[13,19,26]),(7,[11,12,27,28]),(8,[11,12,27,29])]) false=some F_121:=by kernel_rfl
theorem tf_126:gQ ⟨63,4,[],[],[[0,2],[1,3]],[.tmp 2],false⟩:=gK
theorem tf_99:gQ ⟨64,29,[(25,1),(13,1)],[],[[4],[8009],[1000001,10],[4,10013],[0],[],[17020],[6007,21026],[27],[1,5,14016,28]],[.tmp 4],false⟩:=gK
theorem tf_101:gQ ⟨65,12,[(9,1)],[],[[0],[3006],[7010],[1,11]],[.cell true 3 2],false⟩:=gK
theorem tf_98:gQ ⟨69,29,[(25,1)],[],[[4],[8009],[1000001,10],[4,10013],[0],[],[17020],[6007,21026],[27],[1,5,14016,28]],[.tmp 4],false⟩:=gK
theorem tf_103:gQ ⟨70,4,[],[],[[0],[1,3]],[.cell true 4 2],false⟩:=gK
theorem tf_96:gQ ⟨79,5,[(4,1)],[],[[2],[0,3004]],[.tmp 2],false⟩:=gK
theorem tf_122:gQ ⟨80,50,[],[],[[0,8],[9010],[11017],[2,11,18028],[3,6007,29040],[3,6007,29,41042],[1,4005,43049]],[.tmp 8],false⟩:=gK
theorem tf_127:gQ ⟨92,44,[(15,1),(37,1)],[],[[7008],[9010],[11],[4,11019],[1,20021],[],[25027],[6,28033],[4,34041],[42043]],[],false⟩:=gK
theorem tf_97:gQ ⟨93,29,[(25,1),(13,1)],[],[[4],[8009],[1000001,10],[4,10013],[0],[],[17020],[6007,21026],[27],[1,5,14016,28]],[.tmp 4],false⟩:=gK
theorem tf_102:gQ ⟨94,4,[],[],[[0],[1,3]],[.cell true 8 2],false⟩:=gK
theorem tf_100:gQ ⟨103,29,[(25,1)],[],[[4],[8009],[1000001,10],[4,10013],[0],[],[17020],[6007,21026],[27],[1,5,14016,28]],[.tmp 4],false⟩:=gK
theorem tf_95:gQ ⟨104,8,[],[],[[0],[3006],[1,7]],[.cell true 4 2],false⟩:=gK
noncomputable def funcs:Nat→Option SFunc
 |_=>none
end Go.Sh.Cd10
end

section
namespace Go.Proofs.YthinnldeogflgaaGreatDoor
open Go Go.RowKit Go.Mor Go.Sh Go.Sh.Cd1 Go.Sh.Cd7 Go.Sh.Cd10
def chR(h:Chg):List PV:=[.v (.int .i64 h.k),.v (.string (str h.f)),.v (.string (str h.n)),.v (.string (str h.m)),.v (.int .i64 h.t.k),.v (.int .i64 h.t.o),.v (.string (str h.x)),.v (.string (str h.o))]
def z0I(l:List Chg):List (List PV):=l.map chR
def lnC(l:Ln):List TV:=[S (str l.c.n),.pv (.sl 4 (flR l.c.fs)),.pv (.sl 8 (z0I l.hs))]
theorem z4o(l:List Chg)(k:Nat):(z0I l)[k]?=(l[k]?).map chR:=by unfold z0I;rw[List.getElem?_map]
theorem z0u(l:List Chg):(z0I l).length=l.length:=by unfold z0I;rw[List.length_map]
theorem z5D(g:Sh.Glob)(l:Ln):zC g 63 [.agg (lnC l)] [] (.fn (.func 92) [] [.ptr 1000 0]) [.box (lnC l)]:=by
 refine zp tf_126 ?_;unfold lnC;simp only[vW,seval]
def yV(yv:Value)(l:Ln)(i:Nat)(c:Cls)(bx:List (Nat×List TV)):ES:=⟨[(0,.pv (.v yv)),(3,.ptr 3 0),(22,.pv (.sl 8 (z0I l.hs))),(23,I ((z0I l.hs).length:Int)),(24,I (i:Int))],(1000,lnC l)::(3,[S (str c.n),.pv (.sl 4 (flR c.fs))])::bx,[],[]⟩
theorem z1e{c:Cls}(h:zd c=true):ClsOk c∧c.fs.length≤8:=by
 have hr:=(z1n c).1 h;have key:∀s,zk s=true→z25 s:=fun s hs=>by
  unfold zk at hs;simp only[Bool.and_eq_true,decide_eq_true_eq]at hs;have:=hs.1.1.2;unfold z25;omega
 refine⟨⟨key _ hr.1,fun f hf=>key _ ?_,by omega⟩,hr.2.1⟩;have:=hr.2.2.1 f hf;unfold zQ at this;simp only[Bool.and_eq_true]at this;exact this.1.1
theorem zhc(m:Nat)(l:Ln)(hc:ClsOk l.c)(hh:∀h∈l.hs,ChOk m h):zC (glE m) 41 [.agg (lnC l)] [] (B (zZ l)) []:=by
 refine z8 tf_125 ?_ (hc:=rfl);have HV:=z5D (glE m) l;by_cases h12:l.hs.length≤12
 ·have d1:¬(12:Int)<(l.hs.length:Int):=by omega
  have HC:=z06 (glE m) l.c hc;unfold lnC B clT at*;simp only[vcY,seval,d1,z0u];refine z6 HV ?_;refine z9t (H:=z2S []) (Fp:=fpT []) (Kk:=z2T []) (lug:=[2]) tf_127 ?_;intro yv;refine z1B HC ?_;refine⟨fun hr=> ?_,fun hr=> ?_⟩
  ·refine z5p ?_;refine z9P (σ:={x:Nat×Cls // x.1≤l.hs.length∧zo l x.1=(x.2,0)}) (fun x=>yV yv l x.1.1 x.1.2 [(1001,[.pv (.v (.bool false))])]) (fun x=>l.hs.length-x.1.1) ⟨(0,l.c),Nat.zero_le _,by rw[z1N];simp[z2n,hr]⟩ ?_ ?_
   ·unfold yV lnC;exact lwA
   rintro⟨⟨i,c⟩,hi,hv⟩;have hi:i≤l.hs.length:=hi;have hv:zo l i=(c,0):=hv;unfold yV lnC;by_cases hlt:i<l.hs.length
   ·obtain⟨h,ex⟩:∃h,l.hs[i]?=some h:=⟨_,gE hlt⟩
    have hc':ClsOk c∧c.fs.length≤8:=z1e (by have:=z23 (l:=l) (k:=i) (by rw[hv]);rw[hv]at this;exact this);have HA:=z4D m c h hc'.1 (hh h (gM ex)) (by omega);have hn:=z3W ex;rw[hv,z50 h rfl]at hn;unfold z4C clT chT at HA;have d2:(i:Int)<((z0I l.hs).length:Int):=by rw[z0u];omega
    simp only[vcY,seval,d2,z4o,ex,chR];refine z1B HA ?_;refine z5p ?_;refine⟨fun he=>⟨fun _=> ?_,fun h=>absurd he h⟩,fun he=> ?_⟩
    ·refine zb ⟨(i+1,(z09 c h).1),by show i+1≤l.hs.length;omega,by rw[hn,←he]⟩ (by show l.hs.length-(i+1)<l.hs.length-i;omega) ?_;have w1:=wS i;simp only[w1];exact lwA
    ·have:zZ l=false:=by
      unfold zZ;have h0:(zo l (i+1)).2≠0:=by rw[hn];exact he
      rw[z6o h0 (by omega)];simp[h0]
     rw[this]
   ·have d2:¬(i:Int)<((z0I l.hs).length:Int):=by rw[z0u];omega
    simp only[vcY,seval,d2];obtain rfl:i=l.hs.length:=by omega
    have:zZ l=true:=by
     unfold zZ;rw[hv,show Nat.ble l.hs.length 12=true from Nat.ble_eq_true_of_le h12];rfl
    rw[this]
  ·refine z5p ?_;have:zZ l=false:=by
    unfold zZ;have h0:(zo l 0).2≠0:=by rw[z1N];simp[z2n,hr]
    rw[z6o h0 (Nat.zero_le _)];simp[h0]
   rw[this]
 ·have d1:(12:Int)<(l.hs.length:Int):=by omega
  have hb:zZ l=false:=by
   unfold zZ;rw[show Nat.ble l.hs.length 12=false from by rw[←Bool.not_eq_true];intro h;have:=Nat.le_of_ble_eq_true h;omega];rfl
  unfold lnC B;rw[hb];simp only[vcY,seval,d1,z0u]
structure LnOk(m:Nat)(l:Ln):Prop where
 r:zZ l=true
 h:∀h∈l.hs,ChOk m h
theorem LnOk.c{m:Nat}{l:Ln}(h:LnOk m l):zd l.c=true:=by
 have:=z23 (z0i h.r (Nat.zero_le _))
 rwa [z1N]at this
theorem LnOk.len{m:Nat}{l:Ln}(h:LnOk m l):l.hs.length≤12:=by
 have:=h.r;unfold zZ at this;simp only[Bool.and_eq_true]at this;exact Nat.le_of_ble_eq_true this.1
theorem z8R{m:Nat}{l:Ln}(h:LnOk m l){i:Nat}{x:Chg}(hx:l.hs[i]?=some x):z09 (zo l i).1 x=((zo l (i+1)).1,0)∧ClsOk (zo l i).1∧(zo l i).1.fs.length≤8:=by
 have hi:=(gJ hx).1;have h0:=z0i h.r (k:=i) (by omega);have h1:=z0i h.r (k:=i+1) (by omega);have hn:=z3W hx;rw[z50 x h0]at hn;rw[←hn];exact⟨by rw[←h1],z1e (z23 h0)⟩
theorem za9(m:Nat)(l:Ln)(hl:LnOk m l)(v:Nat)(hv:v≤l.hs.length):zC (glE m) 34 [.agg (lnC l),I (v:Int)] [] (clT (zo l v).1) []:=by
 refine z8 tf_124 ?_ (hc:=rfl);have HV:=z5D (glE m) l;have HC:=z06 (glE m) l.c (z1e hl.c).1;have h12:=hl.len;rw[hl.c]at HC;unfold lnC B clT at*;simp only[vcY,seval];refine z6 HV ?_;refine z9t (H:=z2S []) (Fp:=fpT []) (Kk:=z2T []) (lug:=[3,4,5]) tf_127 ?_;intro yv;refine z1B HC ?_;refine z5p ?_;refine⟨fun h0=> ?_,fun h0=> ?_⟩
 ·obtain rfl:v=0:=by omega
  rw[z1N];rfl
 refine z9P (σ:={x:Nat×Cls // x.1<v∧zo l x.1=(x.2,0)}) (fun x=>yV yv l x.1.1 x.1.2 [(1001,[I (v:Int)]),(1002,[S ⟨#[]⟩,.pv (.v (.slice none 0 0))]),(1003,[I ((x.1.1+1:Nat):Int)])]) (fun x=>l.hs.length-x.1.1) ⟨(0,l.c),by show 0<v;omega,by rw[z1N];simp[z2n,hl.c]⟩ ?_ ?_
 ·unfold yV lnC;simp only[show IntKind.i64.wrap 1=1 from wG];exact lwA
 rintro⟨⟨i,c⟩,hi,hv'⟩;have hi:i<v:=hi;have hv':zo l i=(c,0):=hv';unfold yV lnC;obtain⟨h,ex⟩:∃h,l.hs[i]?=some h:=⟨_,gE (by omega)⟩
 obtain⟨n1,n2,n3⟩:=z8R hl ex;rw[hv']at n1 n2 n3;have HA:=z4D m c h n2 (hl.h h (gM ex)) (by have:c.fs.length≤8:=n3;omega);have n1:z09 c h=((zo l (i+1)).1,0):=n1;rw[n1]at HA;unfold z4C clT chT at HA;have d2:(i:Int)<((z0I l.hs).length:Int):=by rw[z0u];omega
 have w1:=wS (i+1);have w2:=wS i;simp only[vcY,seval,d2,z4o,ex,chR];refine z1B HA ?_;refine z5p ?_;refine⟨fun e=> ?_,fun e=>zb ⟨(i+1,(zo l (i+1)).1),by show i+1<v;omega,by rw[←z0i hl.r (show i+1≤l.hs.length by omega)]⟩ (by show l.hs.length-(i+1)<l.hs.length-i;omega) ?_⟩
 ·obtain rfl:v=i+1:=by omega
  rfl
 ·simp only[w1,w2];exact lwA
end Go.Proofs.YthinnldeogflgaaGreatDoor
end
