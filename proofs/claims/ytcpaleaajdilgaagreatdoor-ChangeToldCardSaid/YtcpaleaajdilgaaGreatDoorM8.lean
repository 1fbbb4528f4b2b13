/- Merged texts: Zg5 Zg6 Zg7 Zg8 Zg9 Ze12 Zg10. No statement of the program is proved here. -/
import Derived.Test.YtcpaleaajdilgaaGreatDoorM1
import Derived.Test.YtcpaleaajdilgaaGreatDoorM2
import Derived.Test.YtcpaleaajdilgaaGreatDoorM3
import Derived.Test.YtcpaleaajdilgaaGreatDoorM4
import Derived.Test.YtcpaleaajdilgaaGreatDoorM5
import Derived.Test.YtcpaleaajdilgaaGreatDoorM6
import Derived.Test.YtcpaleaajdilgaaGreatDoorM7
set_option linter.unusedSimpArgs false
set_option linter.unusedVariables false
set_option maxRecDepth 100000
set_option maxHeartbeats 8000000
section
namespace Go.Proofs.YtcpaleaajdilgaaGreatDoor
open Go Go.RowKit Go.Mor Go.Sh Go.Sh.Cd1
section
open Go.Sh.Cd6
def fnP(f:Nat):TV:=.pv (.v (.func (.func f) #[] #[]))
def clE(of w:TV):TV:=.agg [of,w]
def callL:List (zB×TV):=[(nLen,clE (takF 1 [2]) (fnP 137)),(nLeft,clE (takF 2 [2,1]) (fnP 140)),(nRight,clE (takF 2 [2,1]) (fnP 143)),(nFrom,clE (takF 2 [2,1]) (fnP 144)),(nFind,clE (takF 1 [2,2]) (fnP 145)),
 (nText,clE (takF 2 [1]) (fnP 147)),(nNum,clE (takF 1 [2]) (fnP 148)),(nIf,clE (fnP 150) (fnP 151)),(nMin,clE (takF 1 [1,1]) (fnP 152)),(nMax,clE (takF 1 [1,1]) (fnP 153))]
def callKs:List Value:=callL.map fun p=> .string (str p.1)
def callM:TV:=.mp callKs (callL.map (·.2))
noncomputable def callOps:Array Oper:=match Tryz.prog.funcs[79]? with
 |some fn=>match fn.body with
  |some (.seq _ (.seq (.region _ ops _) _))=>ops
  |_=> #[]
 |none=> #[]
def callMix:List MixO:=[.op (oD 2 (.bsl 1 [vI 2])),.op (oD 3 (.call 136 0 [vI 1,.tmp 2])),.op (oD 4 (.build [.nilFunc,.nilFunc] [(0,1,(.tmp 3)),(1,1,(.val (.func (.func 137) #[] #[])))])),.ins ((.string ⟨#[108,101,110]⟩)) 4,.op (oD 5 (.bsl 1 [vI 2,vI 1])),.op (oD 6 (.call 136 0 [vI 2,.tmp 5])),.op (oD 7 (.build [.nilFunc,.nilFunc] [(0,1,(.tmp 6)),(1,1,(.val (.func (.func 140) #[] #[])))])),.ins ((.string ⟨#[108,101,102,116]⟩)) 7,.op (oD 8 (.bsl 1 [vI 2,vI 1])),.op (oD 9 (.call 136 0 [vI 2,.tmp 8])),.op (oD 10 (.build [.nilFunc,.nilFunc] [(0,1,(.tmp 9)),(1,1,(.val (.func (.func 143) #[] #[])))])),.ins ((.string ⟨#[114,105,103,104,116]⟩)) 10,.op (oD 11 (.bsl 1 [vI 2,vI 1])),.op (oD 12 (.call 136 0 [vI 2,.tmp 11])),.op (oD 13 (.build [.nilFunc,.nilFunc] [(0,1,(.tmp 12)),(1,1,(.val (.func (.func 144) #[] #[])))])),.ins ((.string ⟨#[102,114,111,109]⟩)) 13,.op (oD 14 (.bsl 1 [vI 2,vI 2])),.op (oD 15 (.call 136 0 [vI 1,.tmp 14])),.op (oD 16 (.build [.nilFunc,.nilFunc] [(0,1,(.tmp 15)),(1,1,(.val (.func (.func 145) #[] #[])))])),.ins ((.string ⟨#[102,105,110,100]⟩)) 16,.op (oD 17 (.bsl 1 [vI 1])),.op (oD 18 (.call 136 0 [vI 2,.tmp 17])),.op (oD 19 (.build [.nilFunc,.nilFunc] [(0,1,(.tmp 18)),(1,1,(.val (.func (.func 147) #[] #[])))])),.ins ((.string ⟨#[116,101,120,116]⟩)) 19,.op (oD 20 (.bsl 1 [vI 2])),.op (oD 21 (.call 136 0 [vI 1,.tmp 20])),.op (oD 22 (.build [.nilFunc,.nilFunc] [(0,1,(.tmp 21)),(1,1,(.val (.func (.func 148) #[] #[])))])),.ins ((.string ⟨#[110,117,109]⟩)) 22,.op (oD 23 (.build [.nilFunc,.nilFunc] [(0,1,(.val (.func (.func 150) #[] #[]))),(1,1,(.val (.func (.func 151) #[] #[])))])),.ins ((.string ⟨#[105,102]⟩)) 23,.op (oD 24 (.bsl 1 [vI 1,vI 1])),.op (oD 25 (.call 136 0 [vI 1,.tmp 24])),.op (oD 26 (.build [.nilFunc,.nilFunc] [(0,1,(.tmp 25)),(1,1,(.val (.func (.func 152) #[] #[])))])),.ins ((.string ⟨#[109,105,110]⟩)) 26,.op (oD 27 (.bsl 1 [vI 1,vI 1])),.op (oD 28 (.call 136 0 [vI 1,.tmp 27])),.op (oD 29 (.build [.nilFunc,.nilFunc] [(0,1,(.tmp 28)),(1,1,(.val (.func (.func 153) #[] #[])))])),.ins ((.string ⟨#[109,97,120]⟩)) 29,.op (oM 30 1),.op (oM 0 30)]
theorem callMix_eq:mixL Tryz.prog 31 (fun _=>0) callOps 147 1 (List.range' 1 40)=some callMix:=by kernel_rfl
@[congr] theorem mixW_congr {P:Program} {g:Sh.Glob} {text:Bool} {m:Nat} {K:ES→Prop} {l:List MixO} {s s':ES} (h:s=s'):mixW P g text m K l s=mixW P g text m K l s':=by rw[h]
section
variable{P:Program}{g:Sh.Glob}{text:Bool}{m x:Nat}{k:Value}{K:ES→Prop}{l:List MixO}{s:ES}{so:SOper}{ks:List Value}{xs:List TV}{y:TV}
theorem mw_nil:mixW P g text m K [] s=K s:=rfl
theorem mw_op:mixW P g text m K (.op so::l) s=opsW P g [so] (mixW P g text m K l) (s.fgt so.news):=rfl
theorem mw_ins:mixW P g text m K (.ins k x::l) s=(flS m s=true∧Nat.beq x m=false∧insK m x k text (mixW P g text m K l) s (lk s.t m) (lk s.t x)):=rfl
theorem ik:insK m x k text K s (some (.mp ks xs)) (some y)=(findKs (kdOf text) k ks 0=some none∧(xs.all TV.fl2B&&y.fl2B)=true∧K ⟨sv s.t m (.mp (ks++[k]) (xs++[y])),s.b,s.r,s.i⟩):=rfl
end
theorem mwV:(type_of% @mw_nil)∧(type_of% @mw_op)∧(type_of% @mw_ins)∧(type_of% @ik):=⟨@mw_nil,@mw_op,@mw_ins,@ik⟩
def callF:SFunc:=⟨0,.skip,[.tmp 0],false⟩
def callK(s:ES):Prop:=exitF callF 0 s=some (callM,[])
theorem in1(a:Int):inR [a]=[[.v (.int .i64 a)]]:=rfl
theorem calls_walk(g:Sh.Glob):mixW Tryz.prog g true 1 callK callMix ⟨[(1,.mp [] [])],[],[],[]⟩:=by
 have T1:=evTakes_ok g 1 [2];have T2:=evTakes_ok g 2 [2,1];have T3:=evTakes_ok g 1 [2,2];have T4:=evTakes_ok g 2 [1];have T5:=evTakes_ok g 1 [1,1];unfold callMix;simp only[vW,seval,mwV,SOper.news,SOp.news];unfold takF at T1 T2 T3 T4 T5;(with_reducible apply v_call);simp only[vW,seval,in1];rfl;rfl;exact T1;exact km;simp only[vW,seval,in1];rfl;simp only[vW,seval,mwV,SOper.news,SOp.news];repeat(refine⟨by rfl,?_⟩)
 (with_reducible apply v_call);simp only[vW,seval,in2];rfl;rfl;exact T2;exact km;simp only[vW,seval,in2];rfl;simp only[vW,seval,mwV,SOper.news,SOp.news];repeat(refine⟨by rfl,?_⟩)
 (with_reducible apply v_call);simp only[vW,seval,in2];rfl;rfl;exact T2;exact km;simp only[vW,seval,in2];rfl;simp only[vW,seval,mwV,SOper.news,SOp.news];repeat(refine⟨by rfl,?_⟩)
 (with_reducible apply v_call);simp only[vW,seval,in2];rfl;rfl;exact T2;exact km;simp only[vW,seval,in2];rfl;simp only[vW,seval,mwV,SOper.news,SOp.news];repeat(refine⟨by rfl,?_⟩)
 (with_reducible apply v_call);simp only[vW,seval,in2];rfl;rfl;exact T3;exact km;simp only[vW,seval,in2];rfl;simp only[vW,seval,mwV,SOper.news,SOp.news];repeat(refine⟨by rfl,?_⟩)
 (with_reducible apply v_call);simp only[vW,seval,in1];rfl;rfl;exact T4;exact km;simp only[vW,seval,in1];rfl;simp only[vW,seval,mwV,SOper.news,SOp.news];repeat(refine⟨by rfl,?_⟩)
 (with_reducible apply v_call);simp only[vW,seval,in1];rfl;rfl;exact T1;exact km;simp only[vW,seval,in1];rfl;simp only[vW,seval,mwV,SOper.news,SOp.news];repeat(refine⟨by rfl,?_⟩)
 (with_reducible apply v_call);simp only[vW,seval,in2];rfl;rfl;exact T5;exact km;simp only[vW,seval,in2];rfl;simp only[vW,seval,mwV,SOper.news,SOp.news];repeat(refine⟨by rfl,?_⟩)
 (with_reducible apply v_call);simp only[vW,seval,in2];rfl;rfl;exact T5;exact km;simp only[vW,seval,in2];rfl;simp only[vW,seval,mwV,SOper.news,SOp.news];repeat(refine⟨by rfl,?_⟩)
 show exitF callF 0 _=some (callM,[]);kernel_rfl
theorem calls_ok(g:Sh.Glob):zC g 79 [] [] callM []:=by
 refine⟨z56 (by kernel_rfl),fun w E us hG hm hX hl hr=> ?_⟩;obtain rfl:us=[]:=List.eq_nil_of_length_eq_zero hl.symm;have hS0:=start_sim (N:=31) (xs:=[]) (by decide) hm hl hr;have hn:∀(k:Nat),(startE [] []).fs.t k=none:=fun k=>rfl;refine calls_of_wp Tryz.func79 rfl ?_;refine wp_seq (wp_region ?_);show wpOps _ _ _ [0] _ _;rw[wpOps_cons];refine z102 rfl rfl (v:=.map none) (w':=w) rfl ?_;show(Code.seq _ _).wp _ _ _ _;refine wp_seq (wp_region ?_);show wpOps _ callOps _ (0::(List.range' 1 40++[])) _ _;rw[wpOps_cons];refine z102 rfl rfl (v:=.map (some w.heap.size)) (w':=w.alloc (.map #[] 0)) rfl ?_;have hnew:(w.alloc (.map #[] 0)).heap[w.heap.size]?=some (.map #[] 0):=heap_alloc_new w _;have hbel:Below w.heap.size w (w.alloc (.map #[] 0)):=(Below.refl w.heap.size w).alloc (Nat.le_refl _) _;have hS1:=hS0.same hbel;refine mix_sound (B:=Sh.start w E [] 31) (g:=g) (kt:=9) (et:=226) (text:=true) (t:=147) (m:=1) (b:=w.heap.size) (H:=fun _=>0) (K:=callK) (by show 0≤1000;decide) (by show 31≤1000;decide) hG hX (by kernel_rfl) (by kernel_rfl) (by show 1<31;decide) (Nat.le_refl _) ?_ _ callMix callMix_eq ⟨[(1,.mp [] [])],[],[],[]⟩ _ _ E (calls_walk g) ?_ rfl
 ·intro s a w2 E2 hS hk;show Code.ret.wp _ _ a w2;refine wp_ret ?_;have hhrs:seqO (z70 Tryz.prog) Tryz.f79.results.toList=some [.tmp 0]:=by kernel_rfl
  obtain⟨v,hrun,v1,E4,hv,hm4,hr4,hl4⟩:=fin_of (F:=callF) rfl rfl hhrs (os:=[]) (os':=[]) (ds:=[]) rfl hS hk;exact⟨hS.defers,v,hrun,v1,E4,hv,hm4,hr4,hl4⟩
 ·have h1:=hS1.act (a2:=Act.put ⟨#[]++Array.replicate (31-0) undef,[]⟩ (some 0) (.map none)) (by rfl) rfl (fun k x hx=>by rw[hn]at hx;cases hx);have h2:=h1.setT (k:=1) (by show 1<31;decide) (x:=.mp [] []) (v:=.map (some w.heap.size)) (.mp [] [] w.heap.size #[] 0 (fun _=>undef) hnew rfl rfl (by simp) (by simp));have he:((startE [] []).fs.setT 1 (.mp [] []))=(⟨[(1,.mp [] [])],[],[],[]⟩:ES).fs:=by
   refine FS.ext' (fun k=> ?_) (fun k=>rfl) (fun k=>rfl) (fun k=>rfl);show setF (lk []) 1 _ k=lk [(1,_)] k;rw[←lk_sv];rfl
  rw[he]at h2;exact h2
end
section
open Go.Sh.Cd6
def vC(ps:List V):List TV:=pvC (ps.flatMap V.row)
theorem z60(x:V)(ps:List V):vC (x::ps)=I x.k::I x.n::S (str x.s):: .pv (.sl 4 (V.rows x.l))::vC ps:=by
 unfold vC;rw[List.flatMap_cons,row4];rfl
theorem vC_nil:vC []=[]:=rfl
theorem vC_len(ps:List V):(vC ps).length=ps.length*4:=by
 induction ps with
 |nil=>rfl
 |cons p ps ih=>rw[z60];simp[ih];omega
theorem vC_fgt(ids:List Nat)(ps:List V):List.map (fgt3 ids) (vC ps)=vC ps:=pvC_fgt ids _
theorem vC_ids(ps:List V):List.flatMap TV.ids1 (vC ps)=[]:=pvC_ids _
theorem vC_ren(ρ:Nat→Option Nat)(ps:List V):seqO (TV.ren1 ρ) (vC ps)=some (vC ps):=pvC_ren ρ _
theorem vcC:(type_of% @vC_fgt)∧(type_of% @vC_ids)∧(type_of% @vC_ren)∧(type_of% @vC_len):=⟨@vC_fgt,@vC_ids,@vC_ren,@vC_len⟩
theorem str_dropX(l:zB)(i:Nat):(str l).extract i l.length=str (l.drop i):=by rw[str_extract,List.take_of_length_le (by simp)]
def z106(s:zB):Prop:=s.length≤60
def RgN(n:Int):Prop:= -1000000000000000≤n∧n≤1000000000000000
section
variable{x y z:V}
theorem call1_ok(g:Sh.Glob)(hx:z106 x.s):zC g 137 [.bs 1000 0 1 1] [.box (vC [x])] (nv (callV nLen [x])) [.box (vC [x])]:=by
 have HS:=signs_ok g x.s (by have:x.s.length≤60:=hx;omega);have HN:=number_ok g (signsV x.s);rw[show callV nLen [x]=numE (signsV x.s) from rfl];simp only[z60,vC_nil];refine z22 tf_68 ?_;generalize numE (signsV x.s)=r at*;unfold nv at*;simp only[vW,seval];refine z7 HS ?_;exact z14 HN
theorem call2_ok(g:Sh.Glob)(hx:z106 x.s):zC g 140 [.bs 1000 0 2 2] [.box (vC [x,y])] (nv (callV nLeft [x,y])) [.box (vC [x,y])]:=by
 have hx:x.s.length≤60:=hx;have HB:=behind_ok g x.s y.n (by omega);have hb:=behV_le x.s y.n;have HT:=text_ok6 g (x.s.take (behV x.s y.n)) (by rw[List.length_take];omega);rw[show callV nLeft [x,y]=textE (x.s.take (behV x.s y.n)) from rfl];simp only[z60,vC_nil];refine z22 tf_70 ?_;generalize textE (x.s.take (behV x.s y.n))=r at*;unfold nv at*;simp only[vW,seval];refine z7 HB ?_;simp only[vW,seval,List.drop_zero];refine⟨by omega,?_⟩;exact z14 HT
theorem call3_ok(g:Sh.Glob)(hx:z106 x.s)(hy:RgN y.n):zC g 143 [.bs 1000 0 2 2] [.box (vC [x,y])] (nv (callV nRight [x,y])) [.box (vC [x,y])]:=by
 have hx:x.s.length≤60:=hx;obtain⟨hy0,hy1⟩:=hy;have HS:=signs_ok g x.s (by omega);have hs:=signs_le _ x.s (Nat.le_refl _);have HB:=behind_ok g x.s (signsV x.s-y.n) (by omega);have hb:=behV_le x.s (signsV x.s-y.n);have HT:=text_ok6 g (x.s.drop (behV x.s (signsV x.s-y.n))) (by rw[List.length_drop];omega);have w1:IntKind.i64.wrap ((signsV x.s:Int) - y.n)=(signsV x.s:Int) - y.n:=wrap64 (by omega) (by omega);have hd:=str_dropX x.s (behV x.s (signsV x.s-y.n));rw[show callV nRight [x,y]=textE (x.s.drop (behV x.s (signsV x.s-y.n))) from rfl];simp only[z60,vC_nil];refine z22 tf_71 ?_;generalize textE (x.s.drop (behV x.s (signsV x.s-y.n)))=r at*;unfold nv at*;simp only[vW,seval];refine z7 HS ?_;simp only[vW,seval,w1];refine z7 HB ?_;simp only[vW,seval,hd];refine⟨by omega,?_⟩;exact z14 HT
theorem call4_ok(g:Sh.Glob)(hx:z106 x.s):zC g 144 [.bs 1000 0 2 2] [.box (vC [x,y])] (nv (callV nFrom [x,y])) [.box (vC [x,y])]:=by
 have hx:x.s.length≤60:=hx;have HB:=behind_ok g x.s y.n (by omega);have hb:=behV_le x.s y.n;have HT:=text_ok6 g (x.s.drop (behV x.s y.n)) (by rw[List.length_drop];omega);have hd:=str_dropX x.s (behV x.s y.n);rw[show callV nFrom [x,y]=textE (x.s.drop (behV x.s y.n)) from rfl];simp only[z60,vC_nil];refine z22 tf_72 ?_;generalize textE (x.s.drop (behV x.s y.n))=r at*;unfold nv at*;simp only[vW,seval];refine z7 HB ?_;simp only[vW,seval,hd];refine⟨by omega,?_⟩;exact z14 HT
theorem call5_ok(m:Nat)(hx:z106 x.s):zC (glT m) 145 [.bs 1000 0 2 2] [.box (vC [x,y])] (nv (callV nFind [x,y])) [.box (vC [x,y])]:=by
 have HF:=evFind_ok m x.s y.s (by have:x.s.length≤60:=hx;omega);have HN:=number_ok (glT m) (findV x.s y.s);rw[show callV nFind [x,y]=numE (findV x.s y.s) from rfl];simp only[z60,vC_nil];refine z22 tf_73 ?_;generalize numE (findV x.s y.s)=r at*;unfold nv at*;simp only[vW,seval];refine z7 HF ?_;exact z14 HN
theorem call6_ok(m:Nat)(hx:RgN x.n):zC (glT m) 147 [.bs 1000 0 1 1] [.box (vC [x])] (nv (callV nText [x])) [.box (vC [x])]:=by
 obtain⟨h0,h1⟩:=hx;have HI:=itoa_ok m x.n (by omega) (by omega);have hl:(Lib.itoa x.n).length≤4611686018427387904:=by
  have:=cut_itoa x.n;have hh:∀n:Nat,(Lib.decDigits n).length≤n+1:=fun n=>by
   induction n using Nat.strongRecOn with
   |_ n ih=>
    by_cases h:n<10
    ·rw[Lib.decDigits_one h];simp
    ·rw[Lib.decDigits,dif_neg h,List.length_append];have:=ih (n / 10) (by omega);simp;omega
  unfold Lib.itoa;split
  ·have:=hh x.n.natAbs;simp;omega
  ·have:=hh x.n.toNat;omega
 have HT:=text_ok6 (glT m) (Lib.itoa x.n) hl;rw[show callV nText [x]=textE (Lib.itoa x.n) from rfl];simp only[z60,vC_nil];refine z22 tf_74 ?_;generalize textE (Lib.itoa x.n)=r at*;unfold nv at*;simp only[vW,seval];refine z7 HI ?_;exact z14 HT
theorem call7_ok(m:Nat)(hx:z106 x.s):zC (glE m) 148 [.bs 1000 0 1 1] [.box (vC [x])] (nv (callV nNum [x])) [.box (vC [x])]:=by
 have HF:=told_ok m x.s (by have:x.s.length≤60:=hx;omega);have HN:=number_ok (glE m) (toldV x.s);rw[show callV nNum [x]=numE (toldV x.s) from rfl];simp only[z60,vC_nil];refine z22 tf_75 ?_;generalize numE (toldV x.s)=r at*;unfold nv at*;simp only[vW,seval];refine z7 HF ?_;exact z14 HN
theorem call8_ok(g:Sh.Glob):zC g 151 [.bs 1000 0 3 3] [.box (vC [x,y,z])] (tv (callV nIf [x,y,z])) [.box (vC [x,y,z])]:=by
 rw[show callV nIf [x,y,z]=if x.n≠0 then y else z from rfl];simp only[z60,vC_nil];refine z22 tf_76 ?_;by_cases h:x.n=0
 ·rw[if_neg (by simpa using h)];simp only[vW,seval,h]
 ·rw[if_pos h];simp only[vW,seval,h]
theorem call9_ok(g:Sh.Glob):zC g 152 [.bs 1000 0 2 2] [.box (vC [x,y])] (nv (callV nMin [x,y])) [.box (vC [x,y])]:=by
 have HN:=number_ok g (min x.n y.n);rw[show callV nMin [x,y]=numE (min x.n y.n) from rfl];simp only[z60,vC_nil];refine z22 tf_77 ?_;generalize numE (min x.n y.n)=r at*;unfold nv at*;simp only[vW,seval];exact z14 HN
theorem call10_ok(g:Sh.Glob):zC g 153 [.bs 1000 0 2 2] [.box (vC [x,y])] (nv (callV nMax [x,y])) [.box (vC [x,y])]:=by
 have HN:=number_ok g (max x.n y.n);rw[show callV nMax [x,y]=numE (max x.n y.n) from rfl];simp only[z60,vC_nil];refine z22 tf_69 ?_;generalize numE (max x.n y.n)=r at*;unfold nv at*;simp only[vW,seval];exact z14 HN
end
theorem quotient_ok(g:Sh.Glob)(s:zB)(a b:Int)(ha:RgN a)(hs:s=[47]∨s=[37]):zC g 217 [S (str s),I a,I b] [] (I (quotV s a b)) []:=by
 have q1:=bS [47];have e1:(([37]:zB)==[47])=false:=rfl;obtain⟨a0,a1⟩:=ha;unfold quotV;refine z10 tf_87 ?_;by_cases h:b=0
 ·subst h;simp only[vW,seval]
 ·rw[if_neg h];rcases hs with rfl|rfl
  ·have hb: -1000000000000000≤a.tdiv b∧a.tdiv b≤1000000000000000:=by
    have h1:=Int.natAbs_tdiv_le_natAbs a b;omega
   have w1:IntKind.i64.wrap (a.tdiv b)=a.tdiv b:=wrap64 (by omega) (by omega);simp only[vW,seval,h,q1,w1]
  ·simp only[vW,seval,h,q1,e1];rfl
end
section
open Go.Sh.Cd6
theorem abs_max(a:Int):max a (-a)=(a.natAbs:Int):=by omega
theorem prod_rng{a b:Int}(h0:a≠0)(h:max b (-b)≤(1000000000000000:Int).tdiv (max a (-a))): -1000000000000000≤a*b∧a*b≤1000000000000000:=by
 rw[abs_max,abs_max]at h;have e:(1000000000000000:Int).tdiv (a.natAbs:Int)=((1000000000000000 / a.natAbs:Nat):Int):=rfl;rw[e]at h;have h1:b.natAbs≤1000000000000000 / a.natAbs:=by omega
 have h2:b.natAbs*a.natAbs≤1000000000000000:=(Nat.le_div_iff_mul_le (by omega)).1 h1;have h3:(a*b).natAbs=b.natAbs*a.natAbs:=by rw[Int.natAbs_mul,Nat.mul_comm]
 omega
theorem quo_rng(a:Int):0≤(1000000000000000:Int).tdiv (max a (-a))∧(1000000000000000:Int).tdiv (max a (-a))≤1000000000000000:=by
 rw[abs_max];have e:(1000000000000000:Int).tdiv (a.natAbs:Int)=((1000000000000000 / a.natAbs:Nat):Int):=rfl;rw[e];have:=Nat.div_le_self 1000000000000000 a.natAbs;exact⟨Int.natCast_nonneg _,Int.ofNat_le.2 this⟩
theorem product_ok(g:Sh.Glob)(a b:Int)(ha:RgN a)(hb:RgN b):zC g 216 [I a,I b] [] (I (prodV a b)) []:=by
 obtain⟨a0,a1⟩:=ha;obtain⟨b0,b1⟩:=hb;have w1:IntKind.i64.wrap (0-a)= -a:=wG;have w2:IntKind.i64.wrap (0-b)= -b:=wG;have w1':IntKind.i64.wrap (-a)= -a:=by rw[wrap64 (by omega) (by omega)]
 have w2':IntKind.i64.wrap (-b)= -b:=by rw[wrap64 (by omega) (by omega)]
 have hq:=quo_rng a;have w3:IntKind.i64.wrap ((1000000000000000:Int).tdiv (max a (-a)))=(1000000000000000:Int).tdiv (max a (-a)):=wrap64 (by omega) (by omega);unfold prodV;refine z10 tf_86 ?_;by_cases h:a=0
 ·subst h;have w4:IntKind.i64.wrap (0*b)=0*b:=by rw[Int.zero_mul];rfl
  simp only[vW,seval,w4];simp
 ·have hm:¬max a (-a)=0:=by omega
  by_cases h2:max b (-b)≤(1000000000000000:Int).tdiv (max a (-a))
  ·rw[if_pos (.inr h2)];have hr:=prod_rng h h2;have w4:IntKind.i64.wrap (a*b)=a*b:=wrap64 (by omega) (by omega);simp only[vW,seval,h,w1,w2,w1',w2',w3,w4,hm,h2]
  ·rw[if_neg (by simp only[not_or];exact⟨h,h2⟩)];by_cases c1:a<0
   ·by_cases c2:b<0
    ·simp only[vW,seval,h,w1,w2,w1',w2',w3,hm,h2,c1,c2,bbEql]
    ·simp only[vW,seval,h,w1,w2,w1',w2',w3,hm,h2,c1,c2,bbEql]
   ·by_cases c2:b<0
    ·simp only[vW,seval,h,w1,w2,w1',w2',w3,hm,h2,c1,c2,bbEql]
    ·simp only[vW,seval,h,w1,w2,w1',w2',w3,hm,h2,c1,c2,bbEql]
section
variable{a b:V}
theorem operN_ok(g:Sh.Glob)(s:zB)(ha:RgN a.n)(hb:RgN b.n)(hs:s=[45]∨s=[43]∨s=[42]∨s=[47]∨s=[37]):zC g 155 [S (str s),tv a,tv b] [] (nv (opV s a b)) []:=by
 have q1:=bS [45];have q2:=bS [43];have q3:=bS [42];have q4:=bS [47];have q5:=bS [37];have r1:=ha.1;have r2:=ha.2;have r3:=hb.1;have r4:=hb.2;have e1:(([43]:zB)==[45])=false:=rfl;have f1:(([42]:zB)==[45])=false:=rfl;have f2:(([42]:zB)==[43])=false:=rfl;have g1:(([47]:zB)==[45])=false:=rfl;have g2:(([47]:zB)==[43])=false:=rfl;have g3:(([47]:zB)==[42])=false:=rfl;have h1:(([37]:zB)==[45])=false:=rfl;have h2:(([37]:zB)==[43])=false:=rfl;have h3:(([37]:zB)==[42])=false:=rfl;have h4:(([37]:zB)==[47])=false:=rfl;refine z10 tf_83 ?_;rcases hs with rfl|rfl|rfl|rfl|rfl
 ·have w1:IntKind.i64.wrap (0-b.n)= -b.n:=wG;have w1':IntKind.i64.wrap (-b.n)= -b.n:=by rw[wrap64 (by omega) (by omega)]
  have w2:IntKind.i64.wrap (a.n+ -b.n)=a.n+ -b.n:=wrap64 (by omega) (by omega);have HN:=number_ok g (a.n+ -b.n);rw[show opV [45] a b=numE (a.n+ -b.n) from rfl];generalize numE (a.n+ -b.n)=r at*;unfold nv at*;simp only[vW,seval,q1,w1,w1',w2];exact z14 HN
 ·have w2:IntKind.i64.wrap (a.n+b.n)=a.n+b.n:=wrap64 (by omega) (by omega);have HN:=number_ok g (a.n+b.n);rw[show opV [43] a b=numE (a.n+b.n) from rfl];generalize numE (a.n+b.n)=r at*;unfold nv at*;simp only[vW,seval,q1,q2,e1,w2];exact z14 HN
 ·have HP:=product_ok g a.n b.n ha hb;have HN:=number_ok g (prodV a.n b.n);rw[show opV [42] a b=numE (prodV a.n b.n) from rfl];generalize numE (prodV a.n b.n)=r at*;unfold nv at*;simp only[vW,seval,q1,q2,q3,f1,f2];refine z7 HP ?_;exact z14 HN
 ·have HP:=quotient_ok g [47] a.n b.n ha (.inl rfl);have HN:=number_ok g (quotV [47] a.n b.n);rw[show opV [47] a b=numE (quotV [47] a.n b.n) from rfl];generalize numE (quotV [47] a.n b.n)=r at*;unfold nv at*;simp only[vW,seval,q1,q2,q3,q4,g1,g2,g3];refine z7 HP ?_;exact z14 HN
 ·have HP:=quotient_ok g [37] a.n b.n ha (.inr rfl);have HN:=number_ok g (quotV [37] a.n b.n);rw[show opV [37] a b=numE (quotV [37] a.n b.n) from rfl];generalize numE (quotV [37] a.n b.n)=r at*;unfold nv at*;simp only[vW,seval,q1,q2,q3,q4,q5,h1,h2,h3,h4];refine z7 HP ?_;exact z14 HN
theorem operC_ok(g:Sh.Glob)(ha:z106 a.s)(hb:z106 b.s):zC g 155 [S (str [38]),tv a,tv b] [] (nv (opV [38] a b)) []:=by
 have q1:=bS [45];have q2:=bS [43];have q3:=bS [42];have q4:=bS [47];have q5:=bS [37];have q6:=bS [38];have h1:(([38]:zB)==[45])=false:=rfl;have h2:(([38]:zB)==[43])=false:=rfl;have h3:(([38]:zB)==[42])=false:=rfl;have h4:(([38]:zB)==[47])=false:=rfl;have h5:(([38]:zB)==[37])=false:=rfl;have la:a.s.length≤60:=ha;have lb:b.s.length≤60:=hb;have HT:=text_ok6 g (a.s++b.s) (by rw[List.length_append];omega);rw[show opV [38] a b=textE (a.s++b.s) from rfl];generalize textE (a.s++b.s)=r at*;unfold nv at*;refine z10 tf_83 ?_;simp only[vW,seval,q1,q2,q3,q4,q5,q6,h1,h2,h3,h4,h5];refine⟨by omega,?_⟩;exact z14 HT
theorem operB_ok(g:Sh.Glob)(s:zB)(ha:VSmall a)(hs:s=[61]∨s=[60,62]∨s=[60]∨s=[60,61]∨s=[62]∨s=[62,61]):zC g 155 [S (str s),tv a,tv b] [] (nv (opV s a b)) []:=by
 have q1:=bS [45];have q2:=bS [43];have q3:=bS [42];have q4:=bS [47];have q5:=bS [37];have q6:=bS [38];have h1:(s==[45])=false:=by rcases hs with rfl|rfl|rfl|rfl|rfl|rfl<;>rfl
 have h2:(s==[43])=false:=by rcases hs with rfl|rfl|rfl|rfl|rfl|rfl<;>rfl
 have h3:(s==[42])=false:=by rcases hs with rfl|rfl|rfl|rfl|rfl|rfl<;>rfl
 have h4:(s==[47])=false:=by rcases hs with rfl|rfl|rfl|rfl|rfl|rfl<;>rfl
 have h5:(s==[37])=false:=by rcases hs with rfl|rfl|rfl|rfl|rfl|rfl<;>rfl
 have h6:(s==[38])=false:=by rcases hs with rfl|rfl|rfl|rfl|rfl|rfl<;>rfl
 have HC:=compare_ok g a b ha;have HH:=holds_ok g s (cmpV a b) hs;have N1:=number_ok g 1;have N0:=number_ok g 0;have hop:opV s a b=if holdsV s (cmpV a b)then numE 1 else numE 0:=by rcases hs with rfl|rfl|rfl|rfl|rfl|rfl<;>rfl
 rw[hop];unfold B at HH;refine z10 tf_83 ?_;cases hh:holdsV s (cmpV a b)
 ·rw[hh]at HH;simp only[Bool.false_eq_true,if_false];generalize numE 0=r at*;generalize numE 1=r' at*;unfold nv at*;simp only[vW,seval,q1,q2,q3,q4,q5,q6,h1,h2,h3,h4,h5,h6];refine z7 HC ?_;refine z8 HH ?_;exact z14 N0
 ·rw[hh]at HH;simp only[if_true];generalize numE 0=r at*;generalize numE 1=r' at*;unfold nv at*;simp only[vW,seval,q1,q2,q3,q4,q5,q6,h1,h2,h3,h4,h5,h6];refine z7 HC ?_;refine z8 HH ?_;exact z14 N1
end
theorem fresh_n(g:Sh.Glob):∀(n:Nat) (x:V),SizeOf.sizeOf x≤n→VFew x→zC g 154 [tv x] [] (tv x) []:=by
 intro n
 induction n with
 |zero=>intro x hx;cases x;simp at hx
 |succ n ih=>
  intro x hx hs;have hl:=hs.len;have hK:∀y∈x.l,zC g 154 [tv y] [] (tv y) []:=fun y hy=>by
   refine ih y ?_ (hs.sub hy);have:=V.size_lt hy x.k x.n x.s;rw[V.eta]at this;omega
  refine startV1 tf_80 ?_;refine v_loop (σ:={i:Nat // i≤x.l.length}) (fun i=>⟨[(1,.ptr 1 0),(2,.ptr 2 0),(3,.own 3000 4 (V.rows (x.l.take i.1))),(7,.pv (.sl 4 (V.rows x.l))),(8,I (x.l.length:Int)),(9,I (i.1:Int))],[(1,[I x.k,I x.n,S (str x.s),.pv (.sl 4 (V.rows x.l))]),(2,[I 0,I 0,S ⟨#[]⟩,.pv (.v (.slice none 0 0))])],[(3000,(37,4,i.1))],[]⟩) (fun i=>x.l.length-i.1) ⟨0,Nat.zero_le _⟩ ?_ ?_
  ·refine ES.Lw.trans ?_ (adT_lw (k:=3) (d:=3000) (e:=37) (W:=4) (.inr (by decide)) rfl);exact lw_eq rfl
  rintro⟨i,hi⟩;by_cases hlt:i<x.l.length
  ·have d1:(i:Int)<(x.l.length:Int):=by omega
   obtain⟨y,ey⟩:∃y,x.l[i]?=some y:=⟨_,gE hlt⟩
   have HF:=hK y (gM ey);have w1:=wS i;have ht:(V.rows (x.l.take i)).length=i:=by rw[z65,List.length_take];omega
   have hsn:V.rows (x.l.take i)++[V.row y]=V.rows (x.l.take (i+1)):=by
    rw[z41,z41,List.take_add_one,ey];simp
   rw[row4]at hsn;simp only[vW,seval,d1,ey];left;unfold tv at HF;refine z7 HF ?_;simp only[vW,seval,ht,w1,hsn];refine⟨⟨by omega,by unfold maxLen;omega⟩,z13 ⟨i+1,hlt⟩ (by show x.l.length-(i+1)<x.l.length-i;omega) ?_⟩;exact lwA
  ·have d1:¬(i:Int)<(x.l.length:Int):=by omega
   obtain rfl:i=x.l.length:=by omega
   simp only[vW,seval,d1,List.take_length]
theorem fresh_ok(g:Sh.Glob)(x:V)(hx:VFew x):zC g 154 [tv x] [] (tv x) []:=fresh_n g _ x (Nat.le_refl _) hx
end
section
open Go.Sh.Cd6
theorem cm_m1(ids:List Nat):TV.m1 ids callM=false:=rfl
theorem cm_m2(ids:List Nat):TV.m2 ids callM=false:=rfl
theorem cm_m3(ids:List Nat):TV.m3 ids callM=false:=rfl
theorem cm_ids1:TV.ids1 callM=[]:=rfl
theorem cm_ids2:TV.ids2 callM=[]:=rfl
theorem cm_ids3:TV.ids3 callM=[]:=rfl
theorem cm_ren1(ρ:Nat→Option Nat):TV.ren1 ρ callM=some callM:=rfl
theorem cm_ren2(ρ:Nat→Option Nat):TV.ren2 ρ callM=some callM:=rfl
theorem cm_ren3(ρ:Nat→Option Nat):TV.ren3 ρ callM=some callM:=rfl
theorem cm_cells:TV.cells callM=some [callM]:=rfl
theorem cmV:(type_of% @cm_m1)∧(type_of% @cm_m2)∧(type_of% @cm_m3)∧(type_of% @cm_ids1)∧(type_of% @cm_ids2)∧(type_of% @cm_ids3)∧(type_of% @cm_ren1)∧(type_of% @cm_ren2)∧(type_of% @cm_ren3)∧(type_of% @cm_cells):=⟨@cm_m1,@cm_m2,@cm_m3,@cm_ids1,@cm_ids2,@cm_ids3,@cm_ren1,@cm_ren2,@cm_ren3,@cm_cells⟩
section
variable{g:Sh.Glob}{f m:Nat}{dst fp:Option Nat}{xs:List Arg}{xs':List TV}{I:List Nat}{os os':List MO}{y:TV}{l:List SOper}{K:ES→Prop}{s s':ES}{G:Prop}
theorem z82(hc:zC g f xs' os y os')(hk:opsW Tryz.prog g l K s')(hx:callIn s m xs=some (xs',os,I):=by simp only[vW,seval,cmV];rfl)(hfp:fpOk fp I=true:=by rfl)(hmo:moOk os os'=true:=by first|rfl|(simp only[vcA,seval];omega))(hs:callOut s dst I y os'=some s':=by simp only[vW,seval,cmV];rfl):
  opsW Tryz.prog g (⟨dst,none,fp,.call f m xs⟩::l) K s:=v_call hx hfp hc hmo hs hk
theorem z74(hc:zC g f xs' os y os')(h:G)(hx:callIn s m xs=some (xs',os,I):=by simp only[vW,seval,cmV];rfl)(hfp:fpOk fp I=true:=by rfl)(hmo:moOk os os'=true:=by first|rfl|(simp only[vcA,seval];omega))(hs:callOut s dst I y os'=some s':=by simp only[vW,seval,cmV];rfl)(hr:opsW Tryz.prog g l K s'=G:=by simp only[vW,seval,cmV];rfl):
  opsW Tryz.prog g (⟨dst,none,fp,.call f m xs⟩::l) K s:=v_call hx hfp hc hmo hs (hr▸h)
theorem callEndC(hc:zC g f xs' os y os')(hx:callIn s m xs=some (xs',os,I):=by simp only[vW,seval,cmV];rfl)(hfp:fpOk fp I=true:=by rfl)(hmo:moOk os os'=true:=by first|rfl|(simp only[vcA,seval];omega))(hs:callOut s dst I y os'=some s':=by simp only[vW,seval,cmV];rfl)(hr:opsW Tryz.prog g l K s':=by simp only[vW,seval,cmV]):
  opsW Tryz.prog g (⟨dst,none,fp,.call f m xs⟩::l) K s:=v_call hx hfp hc hmo hs hr
end
def callAt(s:zB):Option TV:=(callL.find? fun p=>p.1==s).map (·.2)
theorem cm_lk{s:zB}(h:0<takesV s):∃y,callAt s=some y∧lkpK true (.agg #[.nilFunc,.nilFunc]) (some callM) (some (.string (str s)))=some (y,.no):=by
 rcases z148 h with rfl|rfl|rfl|rfl|rfl|rfl|rfl|rfl|rfl|rfl<;>exact⟨_,rfl,by kernel_rfl⟩
def scp(c:Cls)(vs:PV):List TV:=[S (str c.n),.pv (.sl 4 (flR c.fs)),.pv vs,callM]
theorem kidsT_snoc{t:V→Ty×Bool}(x:V):∀(l:List V),kidsT t (l++[x])=match kidsT t l with|some ps=>if(t x).2 then some (ps++[(t x).1])else none|none=>none
 |[]=>by simp only[List.nil_append,kidsT];cases(t x).2<;>rfl
 |y::l=>by
  rw[List.cons_append,kidsT,kidsT,kidsT_snoc x l];cases(t y).2
  ·rfl
  ·simp only[if_true];cases kidsT t l with
   |none=>rfl
   |some ps=>cases(t x).2<;>rfl
theorem kidsT_bad{t:V→Ty×Bool}:∀{l:List V} {x:V},x∈l→(t x).2=false→kidsT t l=none
 |y::l,x,hx,h=>by
  rw[kidsT];rcases List.mem_cons.1 hx with rfl|hx
  ·rw[h];rfl
  ·rw[kidsT_bad hx h];cases(t y).2<;>rfl
theorem tyC_set(L:List Ty)(k:Nat)(t:Ty)(h:k<L.length):List.take (k*2) (tyC L)++[TV.pv (.v (.int .i64 t.k)),TV.pv (.v (.int .i64 t.o))]++List.drop (k*2+2) (tyC L)=tyC (L.set k t):=by
 induction L generalizing k with
 |nil=>simp at h
 |cons p L ih=>
  cases k with
  |zero=>rfl
  |succ k=>
   have:=ih k (by simpa using h);rw[List.set_cons_succ];show List.take ((k+1)*2) (I p.k::I p.o::tyC L)++[I t.k,I t.o]++List.drop ((k+1)*2+2) (I p.k::I p.o::tyC L)=I p.k::I p.o::tyC (L.set k t);rw[show(k+1)*2=k*2+2 by omega];show I p.k::I p.o::(List.take (k*2) (tyC L)++[I t.k,I t.o]++List.drop (k*2+2) (tyC L))=_;rw[show List.take (k*2) (tyC L)++[I t.k,I t.o]++List.drop (k*2+2) (tyC L)=tyC (L.set k t) from this]
theorem set_take{α:Type}(L:List α)(i:Nat)(x:α)(h:i<L.length):(L.set i x).take (i+1)=L.take i++[x]:=by
 rw[List.take_add_one,List.take_set_of_le (Nat.le_refl _),List.getElem?_set_self h];rfl
theorem tyC_zero(n:Nat):(List.replicate n [TV.pv (.v (.int .i64 0)),TV.pv (.v (.int .i64 0))]).flatten=tyC (List.replicate n ty0):=by
 induction n with
 |zero=>rfl
 |succ n ih=>
  rw[List.replicate_succ,List.flatten_cons,ih];rfl
def TypeOk(g:Sh.Glob)(c:Cls)(vs:PV)(d:Nat):Prop:=∀e,okE d e=true→ESmall e→zC g 135 [.ptr 1000 0,tv e] [.box (scp c vs)] (tyB (typeV c.fs d e)) [.box (scp c vs)]
theorem type_step(g:Sh.Glob)(c:Cls)(vs:PV)(hc:c.fs.length≤4611686018427387904)(d:Nat)(IH:TypeOk g c vs d):TypeOk g c vs (d+1):=by
  intro e he hs
  obtain⟨hn,hk⟩:=ok_kids he
  have hl3:e.l.length≤3:=by
    rcases z159 hn with k|k|k|k|k|k
    · rw[(node1 hn k).2.2.2];simp
    · rw[(node2 hn k).2.2];simp
    · rw[(node3 hn k).2.2];simp
    · obtain⟨_,_,a,b,h⟩:=node4 hn k;rw[h];simp
    · obtain⟨_,_,a,h⟩:=node5 hn k;rw[h];simp
    · have h1:=(node6 hn k).2.2
      have h2:=takes_3 e.s
      omega
  obtain⟨R,hR⟩:∃R,typeV c.fs (d+1) e=R:=⟨_,rfl⟩
  rw[hR]
  unfold typeV at hR
  have hKid:∀y∈e.l,zC g 135 [.ptr 1000 0,tv y] [.box (scp c vs)] (tyB (typeV c.fs d y)) [.box (scp c vs)]:=fun y hy=>IH y (hk y hy) (hs.sub hy)
  unfold scp at*
  refine z22 tf_20 ?_
  simp only[vW,seval,cmV,tyV,tyC_zero]
  refine⟨⟨by omega,by unfold maxLen;omega⟩,?_⟩
  refine v_loop (σ:={p:Nat×List Ty // p.1≤e.l.length∧p.2.length=e.l.length∧kidsT (typeV c.fs d) (e.l.take p.1)=some (p.2.take p.1)})
    (fun p=>⟨[(0,.ptr 1000 0),(3,.ptr 3 0),(4,.ptr 4 0),(6,.bs 16 0 e.l.length e.l.length),(18,.pv (.sl 4 (V.rows e.l))),(19,I (e.l.length:Int)),(20,I (p.1.1:Int))],
      [(1000,[S (str c.n),.pv (.sl 4 (flR c.fs)),.pv vs,callM]),(3,[I e.k,I e.n,S (str e.s),.pv (.sl 4 (V.rows e.l))]),(4,[I 0,I 0]),(16,tyC p.1.2)],[],[]⟩) (fun p=>e.l.length-p.1.1)
    ⟨(0,List.replicate e.l.length ty0),Nat.zero_le _,by simp,by simp[kidsT]⟩ ?_ ?_
  · exact lwA
  rintro⟨⟨i,L⟩,hi,hL,hT⟩
  simp only at hi hL hT
  by_cases hlt:i<e.l.length
  · have d1:(i:Int)<(e.l.length:Int):=by omega
    obtain⟨y,ey⟩:∃y,e.l[i]?=some y:=⟨_,gE hlt⟩
    have hmem:=gM ey
    have HF:=hKid y hmem
    have w1:=wS i
    have htk:e.l.take (i+1)=e.l.take i++[y]:=by rw[List.take_add_one,ey];rfl
    unfold tyB B at HF
    simp only[vW,seval,d1,ey,cmV,tyV]
    (with_reducible apply v_call);simp only[vW,seval,cmV,tyV];rfl;rfl;exact HF;exact km;simp only[vW,seval,cmV,tyV];rfl
    cases h2:(typeV c.fs d y).2
    · rw[kidsT_bad hmem h2]at hR
      simp only[vW,seval,cmV,tyV]
      rw[←hR];rfl
    · have hset:=tyC_set L i (typeV c.fs d y).1 (by omega)
      simp only[vW,seval,cmV,tyV,w1,hset]
      refine⟨by omega,by omega,z13 ⟨(i+1,L.set i (typeV c.fs d y).1),hlt,by simp[hL],by simp only;rw[htk,kidsT_snoc,hT,set_take L i _ (by omega),h2];rfl⟩ (by show e.l.length-(i+1)<e.l.length-i;omega) ?_⟩
      exact lwA
  · have d1:¬(i:Int)<(e.l.length:Int):=by omega
    obtain rfl:i=e.l.length:=by omega
    rw[List.take_length,←hL,List.take_length]at hT
    rw[hT]at hR
    simp only at hR
    unfold nodeT at hR
    rcases z159 hn with k|k|k|k|k|k
    · rw[if_neg (by omega),if_neg (by omega),if_neg (by omega),if_neg (by omega),if_neg (by omega)]at hR
      simp only[vW,seval,d1,cmV,tyV,k]
      rw[←hR]
    · rw[if_pos k]at hR
      simp only[vW,seval,d1,cmV,tyV,k]
      rw[←hR]
    · rw[if_neg (by omega),if_pos k]at hR
      have HA:=field_ok g c e.s hc
      unfold fieldT clT B at HA
      by_cases hf:fieldAt c.fs e.s<0
      · rw[if_pos hf]at HA hR
        simp only[vW,seval,d1,cmV,tyV,k]
        refine z82 HA ?_
        simp only[vW,seval,cmV,tyV]
        rw[←hR];rfl
      · rw[if_neg hf]at HA hR
        obtain⟨q,hq⟩:∃q:Nat,fieldAt c.fs e.s=q:=⟨(fieldAt c.fs e.s).toNat,by omega⟩
        obtain⟨f,hf1,_⟩:=z135 _ _ q hq
        rw[hq]at HA hR
        rw[Int.toNat_natCast,getD_at hf1]at hR
        simp only[vW,seval,d1,cmV,tyV,k]
        refine z82 HA ?_
        simp only[vW,seval,cmV,tyV,clV,hf1]
        rw[←hR]
    · rw[if_neg (by omega),if_neg (by omega),if_pos k]at hR
      obtain⟨_,hb,a,b,hab⟩:=node4 hn k
      have hlen:L.length=2:=by rw[hL,hab];rfl
      obtain⟨p,q,rfl⟩:∃p q,L=[p,q]:=by
        match L,hlen with
        |[p,q],_=>exact⟨p,q,rfl⟩
      have HO:=operator_ok g e.s
      have T1:=takes1_ok g 1 [1,1] [p,q] rfl (by simp)
      have T2:=takes1_ok g 2 [2,2] [p,q] rfl (by simp)
      have T3:=oper1_ok g p q
      unfold operF at HO
      unfold operT at hR
      have hl2:e.l.length=2:=by rw[hab];rfl
      by_cases h1:e.s=[43]∨e.s=[45]∨e.s=[42]∨e.s=[47]∨e.s=[37]
      · rw[if_pos h1]at HO hR
        unfold takF at HO
        rw[hR]at T1
        simp only[vW,seval,d1,cmV,tyV,k,hl2]
        refine z82 HO ?_
        simp only[vW,seval,cmV,tyV]
        unfold tyB B at T1
        (with_reducible apply z28);simp only[vW,seval,cmV,tyV];rfl;exact T1;rfl;simp only[vW,seval,cmV,tyV];rfl
        simp only[vW,seval,cmV,tyV]
      · rw[if_neg h1]at HO hR
        by_cases h2:e.s=[38]
        · rw[if_pos h2]at HO hR
          unfold takF at HO
          rw[hR]at T2
          simp only[vW,seval,d1,cmV,tyV,k,hl2]
          refine z82 HO ?_
          simp only[vW,seval,cmV,tyV]
          unfold tyB B at T2
          (with_reducible apply z28);simp only[vW,seval,cmV,tyV];rfl;exact T2;rfl;simp only[vW,seval,cmV,tyV];rfl
          simp only[vW,seval,cmV,tyV]
        · rw[if_neg h2]at HO hR
          have hR:((⟨1,0⟩:Ty),alikeT p q)=R:=hR
          rw[hR]at T3
          simp only[vW,seval,d1,cmV,tyV,k,hl2]
          refine z82 HO ?_
          simp only[vW,seval,cmV,tyV]
          unfold tyB B at T3
          (with_reducible apply z28);simp only[vW,seval,cmV,tyV];rfl;exact T3;rfl;simp only[vW,seval,cmV,tyV];rfl
          simp only[vW,seval,cmV,tyV]
    · rw[if_neg (by omega),if_neg (by omega),if_neg (by omega),if_pos k]at hR
      obtain⟨_,hb,a,hab⟩:=node5 hn k
      have hl1:e.l.length=1:=by rw[hab];rfl
      obtain⟨p,rfl⟩:∃p,L=[p]:=by
        match L,hL.trans hl1 with
        |[p],_=>exact⟨p,rfl⟩
      have HO:=evTakes_ok g 1 [1]
      have T1:=takes1_ok g 1 [1] [p] rfl (by simp)
      unfold takF at HO
      rw[hR]at T1
      simp only[vW,seval,d1,cmV,tyV,k,hl1]
      (with_reducible apply v_call);simp only[vW,seval,cmV,in1];rfl;rfl;exact HO;exact km;simp only[vW,seval,cmV,in1];rfl
      simp only[vW,seval,cmV,tyV]
      unfold tyB B at T1
      (with_reducible apply z28);simp only[vW,seval,cmV,tyV];rfl;exact T1;rfl;simp only[vW,seval,cmV,tyV];rfl
      simp only[vW,seval,cmV,tyV]
    · rw[if_neg (by omega),if_neg (by omega),if_neg (by omega),if_neg (by omega),if_pos k]at hR
      obtain⟨_,hb,hlk⟩:=node6 hn k
      obtain⟨y,hy,hlkp⟩:=cm_lk hb
      generalize hs':e.s=s' at hb hy hlkp hlk hR
      rcases z148 hb with rfl|rfl|rfl|rfl|rfl|rfl|rfl|rfl|rfl|rfl
      · have hl1 : e.l.length = 1 := by have : takesV nLen = 1 := by decide
                                        omega
        obtain⟨p,rfl⟩:∃p,L=[p]:=by
          match L,hL.trans hl1 with
          |[p],_=>exact⟨p,rfl⟩
        obtain rfl:clE (takF 1 [2]) (fnP 137)=y:=Option.some.inj hy
        have T1:=takes1_ok g 1 [2] [p] rfl (by simp)
        rw[show takeT 1 [2] [p]=R from hR]at T1
        unfold clE takF fnP at hlkp
        unfold tyB B at T1
        simp only[vW,seval,d1,cmV,tyV,k,hl1,hs',hlkp]
        (with_reducible apply z28);simp only[vW,seval,cmV,tyV];rfl;exact T1;rfl;simp only[vW,seval,cmV,tyV];rfl
        simp only[vW,seval,cmV,tyV]
      · have hl1 : e.l.length = 1 := by have : takesV nText = 1 := by decide
                                        omega
        obtain⟨p,rfl⟩:∃p,L=[p]:=by
          match L,hL.trans hl1 with
          |[p],_=>exact⟨p,rfl⟩
        obtain rfl:clE (takF 2 [1]) (fnP 147)=y:=Option.some.inj hy
        have T1:=takes1_ok g 2 [1] [p] rfl (by simp)
        rw[show takeT 2 [1] [p]=R from hR]at T1
        unfold clE takF fnP at hlkp
        unfold tyB B at T1
        simp only[vW,seval,d1,cmV,tyV,k,hl1,hs',hlkp]
        (with_reducible apply z28);simp only[vW,seval,cmV,tyV];rfl;exact T1;rfl;simp only[vW,seval,cmV,tyV];rfl
        simp only[vW,seval,cmV,tyV]
      · have hl1 : e.l.length = 1 := by have : takesV nNum = 1 := by decide
                                        omega
        obtain⟨p,rfl⟩:∃p,L=[p]:=by
          match L,hL.trans hl1 with
          |[p],_=>exact⟨p,rfl⟩
        obtain rfl:clE (takF 1 [2]) (fnP 148)=y:=Option.some.inj hy
        have T1:=takes1_ok g 1 [2] [p] rfl (by simp)
        rw[show takeT 1 [2] [p]=R from hR]at T1
        unfold clE takF fnP at hlkp
        unfold tyB B at T1
        simp only[vW,seval,d1,cmV,tyV,k,hl1,hs',hlkp]
        (with_reducible apply z28);simp only[vW,seval,cmV,tyV];rfl;exact T1;rfl;simp only[vW,seval,cmV,tyV];rfl
        simp only[vW,seval,cmV,tyV]
      · have hl1 : e.l.length = 2 := by have : takesV nLeft = 2 := by decide
                                        omega
        obtain⟨p,q,rfl⟩:∃p q,L=[p,q]:=by
          match L,hL.trans hl1 with
          |[p,q],_=>exact⟨p,q,rfl⟩
        obtain rfl:clE (takF 2 [2,1]) (fnP 140)=y:=Option.some.inj hy
        have T1:=takes1_ok g 2 [2,1] [p,q] rfl (by simp)
        rw[show takeT 2 [2,1] [p,q]=R from hR]at T1
        unfold clE takF fnP at hlkp
        unfold tyB B at T1
        simp only[vW,seval,d1,cmV,tyV,k,hl1,hs',hlkp]
        (with_reducible apply z28);simp only[vW,seval,cmV,tyV];rfl;exact T1;rfl;simp only[vW,seval,cmV,tyV];rfl
        simp only[vW,seval,cmV,tyV]
      · have hl1 : e.l.length = 2 := by have : takesV nRight = 2 := by decide
                                        omega
        obtain⟨p,q,rfl⟩:∃p q,L=[p,q]:=by
          match L,hL.trans hl1 with
          |[p,q],_=>exact⟨p,q,rfl⟩
        obtain rfl:clE (takF 2 [2,1]) (fnP 143)=y:=Option.some.inj hy
        have T1:=takes1_ok g 2 [2,1] [p,q] rfl (by simp)
        rw[show takeT 2 [2,1] [p,q]=R from hR]at T1
        unfold clE takF fnP at hlkp
        unfold tyB B at T1
        simp only[vW,seval,d1,cmV,tyV,k,hl1,hs',hlkp]
        (with_reducible apply z28);simp only[vW,seval,cmV,tyV];rfl;exact T1;rfl;simp only[vW,seval,cmV,tyV];rfl
        simp only[vW,seval,cmV,tyV]
      · have hl1 : e.l.length = 2 := by have : takesV nFrom = 2 := by decide
                                        omega
        obtain⟨p,q,rfl⟩:∃p q,L=[p,q]:=by
          match L,hL.trans hl1 with
          |[p,q],_=>exact⟨p,q,rfl⟩
        obtain rfl:clE (takF 2 [2,1]) (fnP 144)=y:=Option.some.inj hy
        have T1:=takes1_ok g 2 [2,1] [p,q] rfl (by simp)
        rw[show takeT 2 [2,1] [p,q]=R from hR]at T1
        unfold clE takF fnP at hlkp
        unfold tyB B at T1
        simp only[vW,seval,d1,cmV,tyV,k,hl1,hs',hlkp]
        (with_reducible apply z28);simp only[vW,seval,cmV,tyV];rfl;exact T1;rfl;simp only[vW,seval,cmV,tyV];rfl
        simp only[vW,seval,cmV,tyV]
      · have hl1 : e.l.length = 2 := by have : takesV nFind = 2 := by decide
                                        omega
        obtain⟨p,q,rfl⟩:∃p q,L=[p,q]:=by
          match L,hL.trans hl1 with
          |[p,q],_=>exact⟨p,q,rfl⟩
        obtain rfl:clE (takF 1 [2,2]) (fnP 145)=y:=Option.some.inj hy
        have T1:=takes1_ok g 1 [2,2] [p,q] rfl (by simp)
        rw[show takeT 1 [2,2] [p,q]=R from hR]at T1
        unfold clE takF fnP at hlkp
        unfold tyB B at T1
        simp only[vW,seval,d1,cmV,tyV,k,hl1,hs',hlkp]
        (with_reducible apply z28);simp only[vW,seval,cmV,tyV];rfl;exact T1;rfl;simp only[vW,seval,cmV,tyV];rfl
        simp only[vW,seval,cmV,tyV]
      · have hl1 : e.l.length = 2 := by have : takesV nMin = 2 := by decide
                                        omega
        obtain⟨p,q,rfl⟩:∃p q,L=[p,q]:=by
          match L,hL.trans hl1 with
          |[p,q],_=>exact⟨p,q,rfl⟩
        obtain rfl:clE (takF 1 [1,1]) (fnP 152)=y:=Option.some.inj hy
        have T1:=takes1_ok g 1 [1,1] [p,q] rfl (by simp)
        rw[show takeT 1 [1,1] [p,q]=R from hR]at T1
        unfold clE takF fnP at hlkp
        unfold tyB B at T1
        simp only[vW,seval,d1,cmV,tyV,k,hl1,hs',hlkp]
        (with_reducible apply z28);simp only[vW,seval,cmV,tyV];rfl;exact T1;rfl;simp only[vW,seval,cmV,tyV];rfl
        simp only[vW,seval,cmV,tyV]
      · have hl1 : e.l.length = 2 := by have : takesV nMax = 2 := by decide
                                        omega
        obtain⟨p,q,rfl⟩:∃p q,L=[p,q]:=by
          match L,hL.trans hl1 with
          |[p,q],_=>exact⟨p,q,rfl⟩
        obtain rfl:clE (takF 1 [1,1]) (fnP 153)=y:=Option.some.inj hy
        have T1:=takes1_ok g 1 [1,1] [p,q] rfl (by simp)
        rw[show takeT 1 [1,1] [p,q]=R from hR]at T1
        unfold clE takF fnP at hlkp
        unfold tyB B at T1
        simp only[vW,seval,d1,cmV,tyV,k,hl1,hs',hlkp]
        (with_reducible apply z28);simp only[vW,seval,cmV,tyV];rfl;exact T1;rfl;simp only[vW,seval,cmV,tyV];rfl
        simp only[vW,seval,cmV,tyV]
      · have hl1 : e.l.length = 3 := by have : takesV nIf = 3 := by decide
                                        omega
        obtain⟨p,q,r,rfl⟩:∃p q r,L=[p,q,r]:=by
          match L,hL.trans hl1 with
          |[p,q,r],_=>exact⟨p,q,r,rfl⟩
        obtain rfl:clE (fnP 150) (fnP 151)=y:=Option.some.inj hy
        have T1:=choice_ok g p q r
        rw[show z95 [p,q,r]=R from hR]at T1
        unfold clE fnP at hlkp
        unfold tyB B at T1
        simp only[vW,seval,d1,cmV,tyV,k,hl1,hs',hlkp]
        (with_reducible apply z28);simp only[vW,seval,cmV,tyV];rfl;exact T1;rfl;simp only[vW,seval,cmV,tyV];rfl
        simp only[vW,seval,cmV,tyV]
theorem typeOf_ok(g:Sh.Glob)(c:Cls)(vs:PV)(hc:c.fs.length≤4611686018427387904):∀d,TypeOk g c vs d
 |0=>fun e he=>by simp[okE]at he
 |d+1=>type_step g c vs hc d (typeOf_ok g c vs hc d)
end
section
open Go.Sh.Cd6
theorem vC_set(L:List V)(k:Nat)(t:V)(h:k<L.length):List.take (k*4) (vC L)++[TV.pv (.v (.int .i64 t.k)),TV.pv (.v (.int .i64 t.n)),TV.pv (.v (.string (str t.s))),TV.pv (.sl 4 (V.rows t.l))]++List.drop (k*4+4) (vC L)=vC (L.set k t):=by
 induction L generalizing k with
 |nil=>simp at h
 |cons p L ih=>
  cases k with
  |zero=>rw[List.set_cons_zero,z60,z60];rfl
  |succ k=>
   have:=ih k (by simpa using h);rw[List.set_cons_succ,z60,z60,←this,show(k+1)*4=k*4+4 by omega];rfl
def zero4:List TV:=[TV.pv (.v (.int .i64 0)),TV.pv (.v (.int .i64 0)),TV.pv (.v (.string ⟨#[]⟩)),TV.pv (.v (.slice none 0 0))]
theorem zero_wk:∀(n j:Nat) (c d:TV),(List.replicate n zero4).flatten[j]?=some c→(vC (List.replicate n V.nil))[j]?=some d→Wk c d
 |0,j,c,d,h,_=>by simp at h
 |n+1,j,c,d,h,h'=>by
  rw[List.replicate_succ,List.flatten_cons]at h;rw[List.replicate_succ,z60]at h'
  match j with
  |0=>cases h;cases h';exact .refl _
  |1=>cases h;cases h';exact .refl _
  |2=>cases h;cases h';exact .refl _
  |3=>cases h;cases h';exact wk_nil 4
  |j+4=>exact zero_wk n j c d (by simpa [zero4]using h) (by simpa using h')
theorem zero_fg(n:Nat):List.map (fgt3 []) (List.replicate n [TV.pv (.v (.int .i64 0)),TV.pv (.v (.int .i64 0)),TV.pv (.v (.string ⟨#[]⟩)),TV.pv (.v (.slice none 0 0))]).flatten=(List.replicate n zero4).flatten:=by
 induction n with
 |zero=>rfl
 |succ n ih=>rw[List.replicate_succ,List.flatten_cons,List.map_append,ih];rfl
theorem zero_len(n:Nat):(List.replicate n zero4).flatten.length=(vC (List.replicate n V.nil)).length:=by
 rw[vC_len,List.length_replicate]
 induction n with
 |zero=>rfl
 |succ n ih=>rw[List.replicate_succ,List.flatten_cons,List.length_append,ih];simp[zero4];omega
def ansE(e R:V):TV:=if e.k=3∨(e.k=6∧e.s=nIf)then tv R else nv R
structure ValsOk(c:Cls)(vals:List V):Prop where
 cl:c.fs.length≤4611686018427387904
 fit:FitAll c.fs vals
 few:∀v∈vals,VFew v
def WorthOk(m:Nat)(c:Cls)(vals:List V)(d:Nat):Prop:=∀e,okE d e=true→ESmall e→(typeV c.fs d e).2=true→zC (glE m) 80 [.ptr 1000 0,tv e] [.box (scp c (.sl 4 (V.rows vals)))] (tv (worthV c.fs vals d e)) [.box (scp c (.sl 4 (V.rows vals)))]
theorem kid_typed{t:V→Ty×Bool}{l:List V}{ps:List Ty}(h:kidsT t l=some ps){x:V}(hx:x∈l):(t x).2=true:=by
 obtain⟨i,hi⟩:=List.getElem?_of_mem hx;exact((kidsT_at h).2 i x hi).1
theorem right60{s:zB}(h:z18 s=true):z106 s:=by
 unfold z18 at h;simp at h;exact h.1
theorem fits60{v:V}{t:Ty}(h:fitsV v t=true)(hk:t.k=2):z106 v.s:=by
 have:=(text_of h hk).2.2.2;unfold z18 at this;simp at this;exact this.1
theorem fitsRg{v:V}{t:Ty}(h:fitsV v t=true)(hk:t.k=1):RgN v.n:=⟨(num_of h hk).2.1,(num_of h hk).2.2.1⟩
theorem fits_small{v:V}{t:Ty}(h:fitsV v t=true)(hk:t.k=1∨t.k=2):VSmall v:=by
 rcases hk with hk|hk
 ·exact(few0 (num_of h hk).2.2.2.2).small
 ·exact(few0 (text_of h hk).2.2.1).small
theorem take_one{k a:Int}{t:Ty}(h:(takeT k [a] [t]).2=true):t.k=a:=by
 unfold takeT at h;split at h
 ·rename_i h1;simpa [takeG]using h1
 ·cases h
theorem z129{k a b:Int}{t u:Ty}(h:(takeT k [a,b] [t,u]).2=true):t.k=a∧u.k=b:=by
 unfold takeT at h;split at h
 ·rename_i h1;simpa [takeG]using h1
 ·cases h
theorem drop_worth{l:List V}{i:Nat}{y:V}{f:V→V}(h:l[i]?=some y):(l.take (i+1)).map f=(l.take i).map f++[f y]:=by rw[List.take_add_one,h];simp
theorem worth_step(m:Nat)(c:Cls)(vals:List V)(hv:ValsOk c vals)(d:Nat)(IH:WorthOk m c vals d)(e:V)(he:okE (d+1) e=true)(hs:ESmall e)(ht:(typeV c.fs (d+1) e).2=true):
    zC (glE m) 80 [.ptr 1000 0,tv e] [.box (scp c (.sl 4 (V.rows vals)))] (ansE e (worthV c.fs vals (d+1) e)) [.box (scp c (.sl 4 (V.rows vals)))]:=by
  obtain⟨hn,hk⟩:=ok_kids he
  have hl3:e.l.length≤3:=by
    rcases z159 hn with k|k|k|k|k|k
    · rw[(node1 hn k).2.2.2];simp
    · rw[(node2 hn k).2.2];simp
    · rw[(node3 hn k).2.2];simp
    · obtain⟨_,_,a,b,h⟩:=node4 hn k;rw[h];simp
    · obtain⟨_,_,a,h⟩:=node5 hn k;rw[h];simp
    · have h1:=(node6 hn k).2.2
      have h2:=takes_3 e.s
      omega
  have ht':=ht
  unfold typeV at ht'
  obtain⟨ps,hps⟩:∃ps,kidsT (typeV c.fs d) e.l=some ps:=by
    cases h:kidsT (typeV c.fs d) e.l with
    |none=>rw[h]at ht';cases ht'
    |some ps=>exact⟨ps,rfl⟩
  rw[hps]at ht'
  simp only at ht'
  obtain⟨hpl,hpa⟩:=kidsT_at hps
  have hKid:∀y∈e.l,zC (glE m) 80 [.ptr 1000 0,tv y] [.box (scp c (.sl 4 (V.rows vals)))] (tv (worthV c.fs vals d y)) [.box (scp c (.sl 4 (V.rows vals)))]:=fun y hy=>IH y (hk y hy) (hs.sub hy) (kid_typed hps hy)
  have hPF:PartsFit (e.l.map (worthV c.fs vals d)) ps:=⟨by rw[List.length_map,hpl],fun i w t hw ht=>by
    rw[List.getElem?_map]at hw
    obtain⟨x,hx,rfl⟩:=gO hw
    obtain⟨q1,q2⟩:=hpa i x hx
    rw[ht]at q2
    have:=Option.some.inj q2
    exact z184 hv.fit d x t (hk x (gM hx)) (by rw[this,←q1])⟩
  obtain⟨Y,hY⟩:∃Y,ansE e (worthV c.fs vals (d+1) e)=Y:=⟨_,rfl⟩
  rw[hY]
  unfold worthV at hY
  unfold scp at*
  refine z22 tf_21 ?_
  simp only[vW,seval,cmV,vcC]
  refine⟨⟨by omega,by unfold maxLen;omega⟩,?_⟩
  refine v_loop (σ:={p:Nat×List V // p.1≤e.l.length∧p.2.length=e.l.length∧(e.l.take p.1).map (worthV c.fs vals d)=p.2.take p.1})
    (fun p=>⟨[(0,.ptr 1000 0),(3,.ptr 3 0),(4,.ptr 4 0),(5,.bs 13 0 e.l.length e.l.length),(15,.pv (.sl 4 (V.rows e.l))),(16,I (e.l.length:Int)),(17,I (p.1.1:Int))],
      [(1000,[S (str c.n),.pv (.sl 4 (flR c.fs)),.pv (.sl 4 (V.rows vals)),callM]),(3,[I e.k,I e.n,S (str e.s),.pv (.sl 4 (V.rows e.l))]),(4,[I 0,I 0,S ⟨#[]⟩,.pv (.v (.slice none 0 0))]),(13,vC p.1.2)],[],[]⟩) (fun p=>e.l.length-p.1.1)
    ⟨(0,List.replicate e.l.length V.nil),Nat.zero_le _,by simp,by simp⟩ ?_ ?_
  · refine ES.Lw.trans ?_ (reB_lw (k:=13) (ds:=vC (List.replicate e.l.length V.nil)) rfl (by rw[zero_fg];exact zero_len _) (by rw[zero_fg];exact zero_wk _))
    exact lwA
  rintro⟨⟨i,L⟩,hi,hL,hT⟩
  simp only at hi hL hT
  by_cases hlt:i<e.l.length
  · have d1:(i:Int)<(e.l.length:Int):=by omega
    obtain⟨y,ey⟩:∃y,e.l[i]?=some y:=⟨_,gE hlt⟩
    have hmem:=gM ey
    have HF:=hKid y hmem
    have w1:=wS i
    have hset:=vC_set L i (worthV c.fs vals d y) (by omega)
    have hsn:(e.l.take (i+1)).map (worthV c.fs vals d)=(L.set i (worthV c.fs vals d y)).take (i+1):=by rw[drop_worth ey,hT,set_take L i _ (by omega)]
    simp only[vW,seval,d1,ey,cmV,vcC]
    (with_reducible apply v_call);simp only[vW,seval,cmV,vcC];rfl;rfl;exact HF;exact km;simp only[vW,seval,cmV,vcC];rfl
    simp only[vW,seval,cmV,vcC,w1,hset]
    refine⟨by omega,by omega,z13 ⟨(i+1,L.set i (worthV c.fs vals d y)),hlt,by simp[hL],hsn⟩ (by show e.l.length-(i+1)<e.l.length-i;omega) ?_⟩
    exact lwA
  · have d1:¬(i:Int)<(e.l.length:Int):=by omega
    obtain rfl:i=e.l.length:=by omega
    rw[List.take_length,←hL,List.take_length]at hT
    rw[hT]at hY hPF
    have hL3:L.length≤3:=by omega
    unfold nodeW at hY
    unfold nodeT at ht'
    unfold ansE at hY
    rcases z159 hn with k|k|k|k|k|k
    · rw[if_neg (by omega),if_neg (by omega),if_neg (by omega),if_neg (by omega),if_neg (by omega),if_neg (by omega)]at hY
      have HN:=number_ok (glE m) e.n
      subst hY
      generalize numE e.n=r at*
      unfold nv at*
      simp only[vW,seval,d1,cmV,vcC,k]
      (with_reducible apply v_call);simp only[vW,seval,cmV,vcC];rfl;rfl;exact HN;exact km;simp only[vW,seval,cmV,vcC];rfl
      simp only[vW,seval,cmV,vcC]
    · rw[if_neg (by omega),if_pos k]at hY
      have HN:=text_ok6 (glE m) e.s (by have:=right60 (node2 hn k).2.1;unfold z106 at this;omega)
      subst hY
      generalize textE e.s=r at*
      unfold nv at*
      simp only[vW,seval,d1,cmV,vcC,k]
      (with_reducible apply v_call);simp only[vW,seval,cmV,vcC];rfl;rfl;exact HN;exact km;simp only[vW,seval,cmV,vcC];rfl
      simp only[vW,seval,cmV,vcC]
    · rw[if_pos (Or.inl k),if_neg (by omega),if_pos k]at hY
      rw[if_neg (by omega),if_pos k]at ht'
      have hf:¬fieldAt c.fs e.s<0:=fun h=>by rw[if_pos h]at ht';cases ht'
      have HA:=field_ok (glE m) c e.s hv.cl
      unfold fieldT clT B at HA
      rw[if_neg hf]at HA
      obtain⟨f,v,h1,h2,h3,_⟩:=field_at hv.fit hf
      obtain⟨q,hq⟩:∃q:Nat,fieldAt c.fs e.s=q:=⟨(fieldAt c.fs e.s).toNat,by omega⟩
      rw[hq]at HA hY h2
      rw[Int.toNat_natCast]at hY h2
      rw[getD_at h2]at hY
      have HF:=fresh_ok (glE m) v (hv.few v (gM h2))
      subst hY
      unfold tv at*
      simp only[vW,seval,d1,cmV,vcC,k]
      (with_reducible apply v_call);simp only[vW,seval,cmV,vcC];rfl;rfl;exact HA;exact km;simp only[vW,seval,cmV,vcC];rfl
      simp only[vW,seval,cmV,vcC,h2]
      (with_reducible apply v_call);simp only[vW,seval,cmV,vcC];rfl;rfl;exact HF;exact km;simp only[vW,seval,cmV,vcC];rfl
      simp only[vW,seval,cmV,vcC]
    · rw[if_neg (by omega),if_neg (by omega),if_neg (by omega),if_pos k]at hY
      rw[if_neg (by omega),if_neg (by omega),if_pos k]at ht'
      obtain⟨_,hb,a,b,hab⟩:=node4 hn k
      have hlen:L.length=2:=by rw[hL,hab];rfl
      have hl2:e.l.length=2:=by rw[hab];rfl
      obtain⟨p,q,rfl⟩:∃p q,L=[p,q]:=by
        match L,hlen with
        |[p,q],_=>exact⟨p,q,rfl⟩
      obtain⟨t,u,rfl⟩:∃t u,ps=[t,u]:=by
        match ps,hpl.trans hl2 with
        |[t,u],_=>exact⟨t,u,rfl⟩
      have fp:fitsV p t=true:=hPF.2 0 p t rfl rfl
      have fq:fitsV q u=true:=hPF.2 1 q u rfl rfl
      have HO:zC (glE m) 155 [S (str e.s),tv p,tv q] [] (nv (opV e.s p q)) []:=by
        unfold operT at ht'
        by_cases h1:e.s=[43]∨e.s=[45]∨e.s=[42]∨e.s=[47]∨e.s=[37]
        · rw[if_pos h1]at ht'
          obtain⟨k0,k1⟩:=z129 ht'
          exact operN_ok (glE m) e.s (fitsRg fp k0) (fitsRg fq k1) (by rcases h1 with h|h|h|h|h<;>simp[h])
        · rw[if_neg h1]at ht'
          by_cases h2:e.s=[38]
          · rw[if_pos h2]at ht'
            obtain⟨k0,k1⟩:=z129 ht'
            rw[h2]
            exact operC_ok (glE m) (fits60 fp k0) (fits60 fq k1)
          · rw[if_neg h2]at ht'
            exact operB_ok (glE m) e.s (fits_small fp (alike_inv (show alikeT t u=true from ht')).2) (by rcases binds_cases hb with h|h|h|h|h|h|h|h|h|h|h|h<;>simp[h]at h1 h2 ⊢)
      simp only[List.getD_cons_zero,List.getD_cons_succ]at hY
      subst hY
      generalize opV e.s p q=r at*
      unfold nv tv at*
      simp only[vW,seval,d1,cmV,vcC,k,hl2,z60,vC_nil]
      (with_reducible apply v_call);simp only[vW,seval,cmV,vcC];rfl;rfl;exact HO;exact km;simp only[vW,seval,cmV,vcC];rfl
      simp only[vW,seval,cmV,vcC]
    · rw[if_neg (by omega),if_neg (by omega),if_neg (by omega),if_neg (by omega),if_pos k]at hY
      rw[if_neg (by omega),if_neg (by omega),if_neg (by omega),if_pos k]at ht'
      obtain⟨_,hb,a,hab⟩:=node5 hn k
      have hl1:e.l.length=1:=by rw[hab];rfl
      obtain⟨p,rfl⟩:∃p,L=[p]:=by
        match L,hL.trans hl1 with
        |[p],_=>exact⟨p,rfl⟩
      obtain⟨t,rfl⟩:∃t,ps=[t]:=by
        match ps,hpl.trans hl1 with
        |[t],_=>exact⟨t,rfl⟩
      have fp:fitsV p t=true:=hPF.2 0 p t rfl rfl
      have rg:=fitsRg fp (take_one ht')
      unfold RgN at rg
      have w1:IntKind.i64.wrap (0-p.n)= -p.n:=wG
      have HN:=number_ok (glE m) (-p.n)
      simp only[List.getD_cons_zero]at hY
      subst hY
      generalize numE (-p.n)=r at*
      unfold nv at*
      simp only[vW,seval,d1,cmV,vcC,k,hl1,z60,vC_nil,w1]
      (with_reducible apply v_call);simp only[vW,seval,cmV,vcC];rfl;rfl;exact HN;exact km;simp only[vW,seval,cmV,vcC];rfl
      simp only[vW,seval,cmV,vcC]
    · simp only[if_neg (show ¬e.k=2 by omega),if_neg (show ¬e.k=3 by omega),if_neg (show ¬e.k=4 by omega),if_neg (show ¬e.k=5 by omega),if_pos k]at hY
      rw[if_neg (by omega),if_neg (by omega),if_neg (by omega),if_neg (by omega),if_pos k]at ht'
      obtain⟨_,hb,hlen⟩:=node6 hn k
      obtain⟨ym,hy,hlkp⟩:=cm_lk hb
      rcases z148 hb with hs'|hs'|hs'|hs'|hs'|hs'|hs'|hs'|hs'|hs'<;>rw[hs']at hY ht' hlen hy hlkp
      · have hl1 : e.l.length = 1 := by have : takesV nLen = 1 := by decide
                                        omega
        obtain⟨x,rfl⟩:∃x,L=[x]:=by
          match L,hL.trans hl1 with
          |[x],_=>exact⟨x,rfl⟩
        obtain⟨t0,rfl⟩:∃t0,ps=[t0]:=by
          match ps,hpl.trans hl1 with
          |[t0],_=>exact⟨t0,rfl⟩
        obtain rfl:clE (takF 1 [2]) (fnP 137)=ym:=Option.some.inj hy
        have ht':(takeT 1 [2] [t0]).2=true:=ht'
        have f0:fitsV x t0=true:=hPF.2 0 x t0 rfl rfl
        have k0:=take_one ht'
        have T1:zC (glE m) 137 [.bs 1000 0 1 1] [.box (vC [x])] (nv (callV nLen [x])) [.box (vC [x])]:=call1_ok (glE m) (fits60 f0 k0)
        rw[if_neg (fun h=>h.elim (fun h=>by omega) fun h=>absurd h.2 (by decide))]at hY
        subst hY
        generalize callV nLen [x]=r at*
        unfold clE fnP takF at hlkp
        unfold nv at*
        simp only[vW,seval,d1,cmV,vcC,k,hl1,hs',hlkp]
        (with_reducible apply z28);simp only[vW,seval,cmV,vcC];rfl;exact T1;rfl;simp only[vW,seval,cmV,vcC];rfl
        simp only[vW,seval,cmV,vcC]
      · have hl1 : e.l.length = 1 := by have : takesV nText = 1 := by decide
                                        omega
        obtain⟨x,rfl⟩:∃x,L=[x]:=by
          match L,hL.trans hl1 with
          |[x],_=>exact⟨x,rfl⟩
        obtain⟨t0,rfl⟩:∃t0,ps=[t0]:=by
          match ps,hpl.trans hl1 with
          |[t0],_=>exact⟨t0,rfl⟩
        obtain rfl:clE (takF 2 [1]) (fnP 147)=ym:=Option.some.inj hy
        have ht':(takeT 2 [1] [t0]).2=true:=ht'
        have f0:fitsV x t0=true:=hPF.2 0 x t0 rfl rfl
        have k0:=take_one ht'
        have T1:zC (glE m) 147 [.bs 1000 0 1 1] [.box (vC [x])] (nv (callV nText [x])) [.box (vC [x])]:=sc_TE (call6_ok m (fitsRg f0 k0))
        rw[if_neg (fun h=>h.elim (fun h=>by omega) fun h=>absurd h.2 (by decide))]at hY
        subst hY
        generalize callV nText [x]=r at*
        unfold clE fnP takF at hlkp
        unfold nv at*
        simp only[vW,seval,d1,cmV,vcC,k,hl1,hs',hlkp]
        (with_reducible apply z28);simp only[vW,seval,cmV,vcC];rfl;exact T1;rfl;simp only[vW,seval,cmV,vcC];rfl
        simp only[vW,seval,cmV,vcC]
      · have hl1 : e.l.length = 1 := by have : takesV nNum = 1 := by decide
                                        omega
        obtain⟨x,rfl⟩:∃x,L=[x]:=by
          match L,hL.trans hl1 with
          |[x],_=>exact⟨x,rfl⟩
        obtain⟨t0,rfl⟩:∃t0,ps=[t0]:=by
          match ps,hpl.trans hl1 with
          |[t0],_=>exact⟨t0,rfl⟩
        obtain rfl:clE (takF 1 [2]) (fnP 148)=ym:=Option.some.inj hy
        have ht':(takeT 1 [2] [t0]).2=true:=ht'
        have f0:fitsV x t0=true:=hPF.2 0 x t0 rfl rfl
        have k0:=take_one ht'
        have T1:zC (glE m) 148 [.bs 1000 0 1 1] [.box (vC [x])] (nv (callV nNum [x])) [.box (vC [x])]:=call7_ok m (fits60 f0 k0)
        rw[if_neg (fun h=>h.elim (fun h=>by omega) fun h=>absurd h.2 (by decide))]at hY
        subst hY
        generalize callV nNum [x]=r at*
        unfold clE fnP takF at hlkp
        unfold nv at*
        simp only[vW,seval,d1,cmV,vcC,k,hl1,hs',hlkp]
        (with_reducible apply z28);simp only[vW,seval,cmV,vcC];rfl;exact T1;rfl;simp only[vW,seval,cmV,vcC];rfl
        simp only[vW,seval,cmV,vcC]
      · have hl1 : e.l.length = 2 := by have : takesV nLeft = 2 := by decide
                                        omega
        obtain⟨x,y,rfl⟩:∃x y,L=[x,y]:=by
          match L,hL.trans hl1 with
          |[x,y],_=>exact⟨x,y,rfl⟩
        obtain⟨t0,t1,rfl⟩:∃t0 t1,ps=[t0,t1]:=by
          match ps,hpl.trans hl1 with
          |[t0,t1],_=>exact⟨t0,t1,rfl⟩
        obtain rfl:clE (takF 2 [2,1]) (fnP 140)=ym:=Option.some.inj hy
        have ht':(takeT 2 [2,1] [t0,t1]).2=true:=ht'
        have f0:fitsV x t0=true:=hPF.2 0 x t0 rfl rfl
        have f1:fitsV y t1=true:=hPF.2 1 y t1 rfl rfl
        obtain⟨k0,k1⟩:=z129 ht'
        have T1:zC (glE m) 140 [.bs 1000 0 2 2] [.box (vC [x,y])] (nv (callV nLeft [x,y])) [.box (vC [x,y])]:=call2_ok (glE m) (fits60 f0 k0)
        rw[if_neg (fun h=>h.elim (fun h=>by omega) fun h=>absurd h.2 (by decide))]at hY
        subst hY
        generalize callV nLeft [x,y]=r at*
        unfold clE fnP takF at hlkp
        unfold nv at*
        simp only[vW,seval,d1,cmV,vcC,k,hl1,hs',hlkp]
        (with_reducible apply z28);simp only[vW,seval,cmV,vcC];rfl;exact T1;rfl;simp only[vW,seval,cmV,vcC];rfl
        simp only[vW,seval,cmV,vcC]
      · have hl1 : e.l.length = 2 := by have : takesV nRight = 2 := by decide
                                        omega
        obtain⟨x,y,rfl⟩:∃x y,L=[x,y]:=by
          match L,hL.trans hl1 with
          |[x,y],_=>exact⟨x,y,rfl⟩
        obtain⟨t0,t1,rfl⟩:∃t0 t1,ps=[t0,t1]:=by
          match ps,hpl.trans hl1 with
          |[t0,t1],_=>exact⟨t0,t1,rfl⟩
        obtain rfl:clE (takF 2 [2,1]) (fnP 143)=ym:=Option.some.inj hy
        have ht':(takeT 2 [2,1] [t0,t1]).2=true:=ht'
        have f0:fitsV x t0=true:=hPF.2 0 x t0 rfl rfl
        have f1:fitsV y t1=true:=hPF.2 1 y t1 rfl rfl
        obtain⟨k0,k1⟩:=z129 ht'
        have T1:zC (glE m) 143 [.bs 1000 0 2 2] [.box (vC [x,y])] (nv (callV nRight [x,y])) [.box (vC [x,y])]:=call3_ok (glE m) (fits60 f0 k0) (fitsRg f1 k1)
        rw[if_neg (fun h=>h.elim (fun h=>by omega) fun h=>absurd h.2 (by decide))]at hY
        subst hY
        generalize callV nRight [x,y]=r at*
        unfold clE fnP takF at hlkp
        unfold nv at*
        simp only[vW,seval,d1,cmV,vcC,k,hl1,hs',hlkp]
        (with_reducible apply z28);simp only[vW,seval,cmV,vcC];rfl;exact T1;rfl;simp only[vW,seval,cmV,vcC];rfl
        simp only[vW,seval,cmV,vcC]
      · have hl1 : e.l.length = 2 := by have : takesV nFrom = 2 := by decide
                                        omega
        obtain⟨x,y,rfl⟩:∃x y,L=[x,y]:=by
          match L,hL.trans hl1 with
          |[x,y],_=>exact⟨x,y,rfl⟩
        obtain⟨t0,t1,rfl⟩:∃t0 t1,ps=[t0,t1]:=by
          match ps,hpl.trans hl1 with
          |[t0,t1],_=>exact⟨t0,t1,rfl⟩
        obtain rfl:clE (takF 2 [2,1]) (fnP 144)=ym:=Option.some.inj hy
        have ht':(takeT 2 [2,1] [t0,t1]).2=true:=ht'
        have f0:fitsV x t0=true:=hPF.2 0 x t0 rfl rfl
        have f1:fitsV y t1=true:=hPF.2 1 y t1 rfl rfl
        obtain⟨k0,k1⟩:=z129 ht'
        have T1:zC (glE m) 144 [.bs 1000 0 2 2] [.box (vC [x,y])] (nv (callV nFrom [x,y])) [.box (vC [x,y])]:=call4_ok (glE m) (fits60 f0 k0)
        rw[if_neg (fun h=>h.elim (fun h=>by omega) fun h=>absurd h.2 (by decide))]at hY
        subst hY
        generalize callV nFrom [x,y]=r at*
        unfold clE fnP takF at hlkp
        unfold nv at*
        simp only[vW,seval,d1,cmV,vcC,k,hl1,hs',hlkp]
        (with_reducible apply z28);simp only[vW,seval,cmV,vcC];rfl;exact T1;rfl;simp only[vW,seval,cmV,vcC];rfl
        simp only[vW,seval,cmV,vcC]
      · have hl1 : e.l.length = 2 := by have : takesV nFind = 2 := by decide
                                        omega
        obtain⟨x,y,rfl⟩:∃x y,L=[x,y]:=by
          match L,hL.trans hl1 with
          |[x,y],_=>exact⟨x,y,rfl⟩
        obtain⟨t0,t1,rfl⟩:∃t0 t1,ps=[t0,t1]:=by
          match ps,hpl.trans hl1 with
          |[t0,t1],_=>exact⟨t0,t1,rfl⟩
        obtain rfl:clE (takF 1 [2,2]) (fnP 145)=ym:=Option.some.inj hy
        have ht':(takeT 1 [2,2] [t0,t1]).2=true:=ht'
        have f0:fitsV x t0=true:=hPF.2 0 x t0 rfl rfl
        have f1:fitsV y t1=true:=hPF.2 1 y t1 rfl rfl
        obtain⟨k0,k1⟩:=z129 ht'
        have T1:zC (glE m) 145 [.bs 1000 0 2 2] [.box (vC [x,y])] (nv (callV nFind [x,y])) [.box (vC [x,y])]:=sc_TE (call5_ok m (fits60 f0 k0))
        rw[if_neg (fun h=>h.elim (fun h=>by omega) fun h=>absurd h.2 (by decide))]at hY
        subst hY
        generalize callV nFind [x,y]=r at*
        unfold clE fnP takF at hlkp
        unfold nv at*
        simp only[vW,seval,d1,cmV,vcC,k,hl1,hs',hlkp]
        (with_reducible apply z28);simp only[vW,seval,cmV,vcC];rfl;exact T1;rfl;simp only[vW,seval,cmV,vcC];rfl
        simp only[vW,seval,cmV,vcC]
      · have hl1 : e.l.length = 2 := by have : takesV nMin = 2 := by decide
                                        omega
        obtain⟨x,y,rfl⟩:∃x y,L=[x,y]:=by
          match L,hL.trans hl1 with
          |[x,y],_=>exact⟨x,y,rfl⟩
        obtain⟨t0,t1,rfl⟩:∃t0 t1,ps=[t0,t1]:=by
          match ps,hpl.trans hl1 with
          |[t0,t1],_=>exact⟨t0,t1,rfl⟩
        obtain rfl:clE (takF 1 [1,1]) (fnP 152)=ym:=Option.some.inj hy
        have ht':(takeT 1 [1,1] [t0,t1]).2=true:=ht'
        have f0:fitsV x t0=true:=hPF.2 0 x t0 rfl rfl
        have f1:fitsV y t1=true:=hPF.2 1 y t1 rfl rfl
        obtain⟨k0,k1⟩:=z129 ht'
        have T1:zC (glE m) 152 [.bs 1000 0 2 2] [.box (vC [x,y])] (nv (callV nMin [x,y])) [.box (vC [x,y])]:=call9_ok (glE m)
        rw[if_neg (fun h=>h.elim (fun h=>by omega) fun h=>absurd h.2 (by decide))]at hY
        subst hY
        generalize callV nMin [x,y]=r at*
        unfold clE fnP takF at hlkp
        unfold nv at*
        simp only[vW,seval,d1,cmV,vcC,k,hl1,hs',hlkp]
        (with_reducible apply z28);simp only[vW,seval,cmV,vcC];rfl;exact T1;rfl;simp only[vW,seval,cmV,vcC];rfl
        simp only[vW,seval,cmV,vcC]
      · have hl1 : e.l.length = 2 := by have : takesV nMax = 2 := by decide
                                        omega
        obtain⟨x,y,rfl⟩:∃x y,L=[x,y]:=by
          match L,hL.trans hl1 with
          |[x,y],_=>exact⟨x,y,rfl⟩
        obtain⟨t0,t1,rfl⟩:∃t0 t1,ps=[t0,t1]:=by
          match ps,hpl.trans hl1 with
          |[t0,t1],_=>exact⟨t0,t1,rfl⟩
        obtain rfl:clE (takF 1 [1,1]) (fnP 153)=ym:=Option.some.inj hy
        have ht':(takeT 1 [1,1] [t0,t1]).2=true:=ht'
        have f0:fitsV x t0=true:=hPF.2 0 x t0 rfl rfl
        have f1:fitsV y t1=true:=hPF.2 1 y t1 rfl rfl
        obtain⟨k0,k1⟩:=z129 ht'
        have T1:zC (glE m) 153 [.bs 1000 0 2 2] [.box (vC [x,y])] (nv (callV nMax [x,y])) [.box (vC [x,y])]:=call10_ok (glE m)
        rw[if_neg (fun h=>h.elim (fun h=>by omega) fun h=>absurd h.2 (by decide))]at hY
        subst hY
        generalize callV nMax [x,y]=r at*
        unfold clE fnP takF at hlkp
        unfold nv at*
        simp only[vW,seval,d1,cmV,vcC,k,hl1,hs',hlkp]
        (with_reducible apply z28);simp only[vW,seval,cmV,vcC];rfl;exact T1;rfl;simp only[vW,seval,cmV,vcC];rfl
        simp only[vW,seval,cmV,vcC]
      · have hl1 : e.l.length = 3 := by have : takesV nIf = 3 := by decide
                                        omega
        obtain⟨x,y,z,rfl⟩:∃x y z,L=[x,y,z]:=by
          match L,hL.trans hl1 with
          |[x,y,z],_=>exact⟨x,y,z,rfl⟩
        obtain rfl:clE (fnP 150) (fnP 151)=ym:=Option.some.inj hy
        have T1:zC (glE m) 151 [.bs 1000 0 3 3] [.box (vC [x,y,z])] (tv (callV nIf [x,y,z])) [.box (vC [x,y,z])]:=call8_ok (glE m)
        rw[if_pos (Or.inr ⟨k,rfl⟩)]at hY
        subst hY
        generalize callV nIf [x,y,z]=r at*
        unfold clE fnP at hlkp
        unfold tv at*
        simp only[vW,seval,d1,cmV,vcC,k,hl1,hs',hlkp]
        (with_reducible apply z28);simp only[vW,seval,cmV,vcC];rfl;exact T1;rfl;simp only[vW,seval,cmV,vcC];rfl
        simp only[vW,seval,cmV,vcC]
theorem opV_l(s:zB)(a b:V):(opV s a b).l=[]:=by
 unfold opV
 repeat' split
 all_goals rfl
theorem nodeW_l{fs:List Fld}{vals ws:List V}{e:V}(h:¬(e.k=3∨(e.k=6∧e.s=nIf))):(nodeW fs vals e ws).l=[]:=by
 rw[not_or]at h;unfold nodeW;rw[if_neg h.1];split
 ·rfl
 split
 ·exact opV_l _ _ _
 split
 ·rfl
 split
 ·rename_i h6;have hs:e.s≠nIf:=fun hs=>h.2 ⟨h6,hs⟩;unfold callV;simp only[if_neg hs]
  repeat' split
  all_goals rfl
 ·rfl
theorem worth_ok(m:Nat)(c:Cls)(vals:List V)(hv:ValsOk c vals):∀d,WorthOk m c vals d
 |0=>fun e he=>by simp[okE]at he
 |d+1=>fun e he hs ht=>by
  have:=worth_step m c vals hv d (worth_ok m c vals hv d) e he hs ht;unfold ansE at this;split at this
  ·exact this
  ·rename_i hne;exact this.out (nv_tv (nodeW_l hne))
end
section
open Go.Sh.Cd4 Go.Sh.Cd5
theorem rightE_inv{e:V}(h:rightE e=true):okE 8 e=true∧szE 8 e≤40:=by
 unfold rightE at h
 grind
end
section
open Go.Sh.Cd6
theorem checkGo_fit:∀{fs:List Fld} {vs:List V} {k:Nat},(z108 k fs vs).2=0→∀(i:Nat) f v,fs[i]?=some f→vs[i]?=some v→fitsV v f.t=true
 |[],_,_,_,i,f,v,h,_=>by simp at h
 |_::_,[],_,_,i,f,v,_,h=>by simp at h
 |g::fs,u::vs,k,hk,i,f,v,hf,hv=>by
  unfold z108 at hk;split at hk
  ·rename_i h1;cases i with
   |zero=>cases hf;cases hv;exact h1
   |succ i=>exact checkGo_fit hk i f v (by simpa using hf) (by simpa using hv)
  ·cases hk
theorem once_all{all:List Fld}:∀{l:List Fld} {k:Nat},onceGo all k l=true→∀f∈l,z26 f=true
 |[],_,_,f,h=>by cases h
 |g::l,k,ho,f,h=>by
  rw[once_step]at ho;simp only[Bool.and_eq_true]at ho;rcases List.mem_cons.1 h with rfl|h
  ·exact ho.1.1
  ·exact once_all ho.2 f h
theorem check_fit{c:Cls}{vs:List V}(h:(check c vs).2=0):FitAll c.fs vs:=by
 unfold check at h;split at h
 ·cases h
 rename_i hr;split at h
 ·cases h
 rename_i hl;have hr:z19 c=true:=by simpa using hr
 unfold z19 at hr;simp only[Bool.and_eq_true]at hr;refine⟨fun f hf=> ?_,by omega,checkGo_fit h⟩;have:=once_all hr.2 f hf;unfold z26 at this;simp only[Bool.and_eq_true]at this;exact this.1.2
def typeT(r:Ty×Int):TV:=.tuple [tyT r.1,I r.2]
theorem evType_ok(m:Nat)(c:Cls)(e:V)(hc:ClsOk c)(he:ESmall e):zC (glE m) 78 [tv e,clT c] [] (typeT (typeA c e)) []:=by
 have H1:=sc_0E (exprRight_ok m e he);have H2:=classRight_ok (glE m) c hc;have H3:=calls_ok (glE m);have H4:=fun h=>typeOf_ok (glE m) c (.v (.slice none 0 0)) hc.len 8 e h he;unfold typeA;refine z10 tf_65 ?_;unfold clT typeT tyT B at*;cases h1:rightE e
 ·rw[h1]at H1;simp only[vW,seval,cmV];refine z74 H1 ?_;rfl
 rw[h1]at H1;have H4:=H4 (rightE_inv h1).1;rw[if_pos rfl];cases h2:z19 c
 ·rw[h2]at H2;simp only[vW,seval,cmV];refine z74 H1 ?_;refine z74 H2 ?_;rfl
 rw[h2]at H2;rw[if_pos rfl];unfold tyB scp B at H4;cases h3:(typeV c.fs 8 e).2
 ·rw[h3]at H4;simp only[vW,seval,cmV];refine z74 H1 ?_;refine z74 H2 ?_;refine z74 H3 ?_;refine z74 H4 ?_;rfl
 ·rw[h3]at H4;simp only[vW,seval,cmV];refine z74 H1 ?_;refine z74 H2 ?_;refine z74 H3 ?_;exact callEndC H4
def evalT(r:V×Int):TV:=if r.2=0 then .tuple [tv r.1,I 0] else .tuple [nv V.nil,I r.2]
theorem evEval_ok(m:Nat)(c:Cls)(e:V)(vals:List V)(hc:ClsOk c)(he:ESmall e)(hf:∀x∈vals,VFew x∧VOk x)(hl:vals.length≤4611686018427387904):zC (glE m) 37 [tv e,clT c,.pv (.sl 4 (V.rows vals))] [] (evalT (evalA c vals e)) []:=by
 have H1:=evType_ok m c e hc he;have H2:=sc_0E (classCheck_ok m c vals hc (fun x hx=>⟨(hf x hx).2,by have:=(hf x hx).1.len;unfold maxLen;omega⟩) hl);have H3:=calls_ok (glE m);unfold evalA;refine z10 tf_64 ?_;unfold clT evalT typeT tyT checkT at*;obtain⟨t,ht⟩:∃t,typeA c e=t:=⟨_,rfl⟩
 obtain⟨k,hk⟩:∃k,check c vals=k:=⟨_,rfl⟩
 rw[ht]at H1 ⊢;rw[hk]at H2 ⊢;by_cases h1:t.2=0
 ·rw[if_neg (c:=t.2≠0) (by omega)];by_cases h2:k.2=0
  ·rw[if_neg (c:=k.2≠0) (by omega)];obtain⟨h3,h4⟩:rightE e=true∧(typeV c.fs 8 e).2=true:=by
    unfold typeA at ht;rw[←ht]at h1;cases h5:rightE e
    ·rw[h5]at h1;cases h1
    ·cases h6:(typeV c.fs 8 e).2
     ·rw[h5,h6]at h1;cases h7:z19 c<;>rw[h7]at h1<;>cases h1
     ·exact⟨rfl,rfl⟩
   have H4:=worth_ok m c vals ⟨hc.len,check_fit (by rw[hk];exact h2),fun v hv=>(hf v hv).1⟩ 8 e (rightE_inv h3).1 he h4;obtain⟨r,hr⟩:∃r,worthV c.fs vals 8 e=r:=⟨_,rfl⟩
   rw[hr]at H4 ⊢;rw[if_pos rfl];unfold scp at H4;unfold tv at*;simp only[vW,seval,cmV];refine z82 H1 ?_;simp only[vW,seval,cmV,h1];refine z82 H2 ?_;simp only[vW,seval,cmV,h2];refine z74 H3 ?_;exact callEndC H4
  ·rw[if_pos (c:=k.2≠0) h2,if_neg (c:=k.2=0) h2];simp only[vW,seval,cmV];refine z82 H1 ?_;simp only[vW,seval,cmV,h1];refine z82 H2 ?_;simp only[vW,seval,cmV,h2];rfl
 ·rw[if_pos (c:=t.2≠0) h1,if_neg (c:=t.2=0) h1];simp only[vW,seval,cmV];refine z82 H1 ?_;simp only[vW,seval,cmV,h1];rfl
end
end Go.Proofs.YtcpaleaajdilgaaGreatDoor
end
