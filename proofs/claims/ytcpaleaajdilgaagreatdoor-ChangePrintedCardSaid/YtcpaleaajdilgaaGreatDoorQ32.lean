/- Merged texts: Zm3 Zm4 S30 Zm6 Zm7 Zm8 Zm9. No statement of the program is proved here. -/
import Derived.Test.YtcpaleaajdilgaaGreatDoorQ31
import Derived.Laws.OwnMore
import Derived.Shelf.RegionOpenPlain
import Derived.Deep.LoopGhost
import Derived.Lib.Walk
import Derived.Lib.SliceRun
import Derived.Lib.AppendZerosOnto
set_option linter.unusedSimpArgs false
set_option linter.unusedVariables false
set_option maxRecDepth 100000
set_option maxHeartbeats 8000000
section
namespace Go.Proofs.YtcpaleaajdilgaaGreatDoor
open Go Go.RowKit Go.Mor Go.Sh Go.Sh.Cd1 Go.Sh.Cd7
def fnW(w:List PV)(f:Nat):TV:=.fn (.func f) [.pv (.el w)] []
def kdT(w:List PV)(a b c:Nat):TV:=.agg [fnW w a,fnW w b,fnW w c]
def kdL(w:List PV):List TV:=[kdT w 187 188 189,kdT w 190 191 192,kdT w 193 194 195,kdT w 196 197 198,kdT w 199 200 201,kdT w 202 203 195]
def kdK:List Value:=[.int .i64 1,.int .i64 2,.int .i64 3,.int .i64 4,.int .i64 5,.int .i64 6]
noncomputable def zgp:Array Oper:=match Tryz.prog.funcs[127]? with
 |some fn=>match fn.body with
  |some (.seq _ (.seq (.region _ ops _) _))=>ops
  |_=> #[]
 |none=> #[]
def z9i:List MixO:=[.op ⟨(some 4),none,none,.mov (.tmp 0)⟩,.op ⟨(some 5),none,none,.mkf (.func 187) [(.tmp 4)] []⟩,.op ⟨(some 6),none,none,.mov (.tmp 0)⟩,.op ⟨(some 7),none,none,.mkf (.func 188) [(.tmp 6)] []⟩,.op ⟨(some 8),none,none,.mov (.tmp 0)⟩,.op ⟨(some 9),none,none,.mkf (.func 189) [(.tmp 8)] []⟩,.op ⟨(some 10),none,none,.build [.nilFunc,.nilFunc,.nilFunc] [(0,1,(.tmp 5)),(1,1,(.tmp 7)),(2,1,(.tmp 9))]⟩,.ins ((.int .i64 1)) 10,.op ⟨(some 11),none,none,.mov (.tmp 0)⟩,.op ⟨(some 12),none,none,.mkf (.func 190) [(.tmp 11)] []⟩,.op ⟨(some 13),none,none,.mov (.tmp 0)⟩,.op ⟨(some 14),none,none,.mkf (.func 191) [(.tmp 13)] []⟩,.op ⟨(some 15),none,none,.mov (.tmp 0)⟩,.op ⟨(some 16),none,none,.mkf (.func 192) [(.tmp 15)] []⟩,.op ⟨(some 17),none,none,.build [.nilFunc,.nilFunc,.nilFunc] [(0,1,(.tmp 12)),(1,1,(.tmp 14)),(2,1,(.tmp 16))]⟩,.ins ((.int .i64 2)) 17,.op ⟨(some 18),none,none,.mov (.tmp 0)⟩,.op ⟨(some 19),none,none,.mkf (.func 193) [(.tmp 18)] []⟩,.op ⟨(some 20),none,none,.mov (.tmp 0)⟩,.op ⟨(some 21),none,none,.mkf (.func 194) [(.tmp 20)] []⟩,.op ⟨(some 22),none,none,.mov (.tmp 0)⟩,.op ⟨(some 23),none,none,.mkf (.func 195) [(.tmp 22)] []⟩,.op ⟨(some 24),none,none,.build [.nilFunc,.nilFunc,.nilFunc] [(0,1,(.tmp 19)),(1,1,(.tmp 21)),(2,1,(.tmp 23))]⟩,.ins ((.int .i64 3)) 24,.op ⟨(some 25),none,none,.mov (.tmp 0)⟩,.op ⟨(some 26),none,none,.mkf (.func 196) [(.tmp 25)] []⟩,.op ⟨(some 27),none,none,.mov (.tmp 0)⟩,.op ⟨(some 28),none,none,.mkf (.func 197) [(.tmp 27)] []⟩,.op ⟨(some 29),none,none,.mov (.tmp 0)⟩,.op ⟨(some 30),none,none,.mkf (.func 198) [(.tmp 29)] []⟩,.op ⟨(some 31),none,none,.build [.nilFunc,.nilFunc,.nilFunc] [(0,1,(.tmp 26)),(1,1,(.tmp 28)),(2,1,(.tmp 30))]⟩,.ins ((.int .i64 4)) 31,.op ⟨(some 32),none,none,.mov (.tmp 0)⟩,.op ⟨(some 33),none,none,.mkf (.func 199) [(.tmp 32)] []⟩,.op ⟨(some 34),none,none,.mov (.tmp 0)⟩,.op ⟨(some 35),none,none,.mkf (.func 200) [(.tmp 34)] []⟩,.op ⟨(some 36),none,none,.mov (.tmp 0)⟩,.op ⟨(some 37),none,none,.mkf (.func 201) [(.tmp 36)] []⟩,.op ⟨(some 38),none,none,.build [.nilFunc,.nilFunc,.nilFunc] [(0,1,(.tmp 33)),(1,1,(.tmp 35)),(2,1,(.tmp 37))]⟩,.ins ((.int .i64 5)) 38,.op ⟨(some 39),none,none,.mov (.tmp 0)⟩,.op ⟨(some 40),none,none,.mkf (.func 202) [(.tmp 39)] []⟩,.op ⟨(some 41),none,none,.mov (.tmp 0)⟩,.op ⟨(some 42),none,none,.mkf (.func 203) [(.tmp 41)] []⟩,.op ⟨(some 43),none,none,.mov (.tmp 0)⟩,.op ⟨(some 44),none,none,.mkf (.func 195) [(.tmp 43)] []⟩,.op ⟨(some 45),none,none,.build [.nilFunc,.nilFunc,.nilFunc] [(0,1,(.tmp 40)),(1,1,(.tmp 42)),(2,1,(.tmp 44))]⟩,.ins ((.int .i64 6)) 45,.op ⟨(some 46),none,none,.mov (.tmp 3)⟩,.op ⟨(some 2),none,none,.mov (.tmp 46)⟩]
theorem zhF:zbS Tryz.prog 47 (fun _=>0) zgp 205 3 (List.range' 1 50)=some z9i:=by kernel_rfl
def zhE:SFunc:=⟨0,.skip,[.tmp 2],false⟩
def zn5(w:List PV)(s:ES):Prop:=exitF zhE 0 s=some (.mp kdK (kdL w),[])
theorem zhG(g:Sh.Glob)(w:List PV):z5d Tryz.prog g false 3 (zn5 w) z9i ⟨[(0,.pv (.el w)),(3,.mp [] [])],[],[],[]⟩:=by
 unfold z9i;simp only[vW,seval,mwV,SOper.news,SOp.news];repeat(refine⟨by rfl,?_⟩)
 show exitF zhE 0 _=some (.mp kdK (kdL w),[]);rfl
theorem zlK(g:Sh.Glob)(ps:List PV):zC g 127 [.pv (.el ps)] [] (.mp kdK (kdL ps)) []:=by
 refine⟨z0A (by kernel_rfl),fun w E us hG hm hX hl hr=> ?_⟩;obtain⟨u,rfl⟩:∃u,us=[u]:=by
  match us,hl with
  |[u],_=>exact⟨u,rfl⟩
 have hu:=hr 0 _ u rfl rfl;have hS0:=z6k (N:=47) (xs:=[.pv (.el ps)]) (by show 1≤47;decide) hm hl hr;refine calls_of_wp Tryz.func127 rfl ?_;refine wp_seq (wp_region ?_);show wpOps _ _ _ [0] _ _;rw[wpOps_cons];refine z2i rfl rfl (v:=.map none) (w':=w) rfl ?_;show(Code.seq _ _).wp _ _ _ _;refine wp_seq (wp_region ?_);show wpOps _ zgp _ (0::(List.range' 1 50++[])) _ _;rw[wpOps_cons];refine z2i rfl rfl (v:=.map (some w.heap.size)) (w':=w.alloc (.map #[] 0)) rfl ?_;have hnew:(w.alloc (.map #[] 0)).heap[w.heap.size]?=some (.map #[] 0):=heap_alloc_new w _;have hbel:Below w.heap.size w (w.alloc (.map #[] 0)):=(Below.refl w.heap.size w).alloc (Nat.le_refl _) _;have hS1:=hS0.same hbel;refine z8s (B:=Sh.start w E [] 47) (g:=g) (kt:=3) (et:=124) (text:=false) (t:=205) (m:=3) (b:=w.heap.size) (H:=fun _=>0) (K:=zn5 ps) (by show 0≤1000;decide) (by show 47≤1000;decide) hG hX (by kernel_rfl) (by kernel_rfl) (by show 3<47;decide) (Nat.le_refl _) ?_ _ z9i zhF ⟨[(0,.pv (.el ps)),(3,.mp [] [])],[],[],[]⟩ _ _ E (zhG g ps) ?_ ?_
 ·intro s a w2 E2 hS hk;show Code.ret.wp _ _ a w2;refine wp_ret ?_;have hhrs:seqO (z1m Tryz.prog) Tryz.f127.results.toList=some [.tmp 2]:=by kernel_rfl
  obtain⟨v,hrun,v1,E4,hv,hm4,hr4,hl4⟩:=z6N (F:=zhE) rfl rfl hhrs (os:=[]) (os':=[]) (ds:=[]) rfl hS hk;exact⟨hS.defers,v,hrun,v1,E4,hv,hm4,hr4,hl4⟩
 ·have hnt:Tryz.f127.ntmps=47:=rfl;show Sim _ _ ((Act.put ⟨#[u]++Array.replicate (Tryz.f127.ntmps - #[u].size) undef,[]⟩ (some 2) (.map none)).put (some 3) (.map (some w.heap.size))) _ _;have h2:=hS1.act (a2:=Act.put ⟨#[u]++Array.replicate (Tryz.f127.ntmps - #[u].size) undef,[]⟩ (some 2) (.map none)) (by rw[hnt];simp[Act.put];rfl) rfl (fun k x hx=>by
   have hx:([TV.pv (.el ps)]:List TV)[k]?=some x:=by rw[←hx];cases k<;>rfl
   cases k with
   |zero=>
    cases hx;have:=(hS1.tmp 0 _ rfl).2;simpa [Act.put,Array.getD]using this
   |succ k=>simp at hx)
  have h3:=h2.setT (k:=3) (by show 3<47;decide) (x:=.mp [] []) (v:=.map (some w.heap.size)) (.mp [] [] w.heap.size #[] 0 (fun _=>undef) hnew rfl rfl (by simp) (by simp));have he:((startE [.pv (.el ps)] []).fs.setT 3 (.mp [] []))=(⟨[(0,.pv (.el ps)),(3,.mp [] [])],[],[],[]⟩:ES).fs:=by
   refine FS.ext' (fun k=> ?_) (fun k=>rfl) (fun k=>rfl) (fun k=>rfl);show z0I (lk [(0,TV.pv (.el ps))]) 3 _ k=lk [(0,_),(3,_)] k;rw[←z2c];rfl
  rw[he]at h3;exact h3
 ·show(Act.put _ (some 3) _).tmps.getD 3 undef=_;simp[Act.put,Array.getD]
def wkP(c:Cls)(h:Chg)(i:Nat)(b:Bool)(x o:PV):List PV:=
 [.v (.string (str c.n)),.sl 4 (flR c.fs),.v (.int .i64 h.k),.v (.string (str h.f)),.v (.string (str h.n)),.v (.string (str h.m)),.v (.int .i64 h.t.k),.v (.int .i64 h.t.o),.v (.string (str h.x)),.v (.string (str h.o)),
  .v (.int .i64 (i:Int)),.v (.bool b),x,o]
def wkC(c:Cls)(h:Chg):List PV:=wkP c h (atV c.fs h.f) (z0M c.fs h.f) (tlT c h.t (zz c h.x h.t)) (tlT c h.t (zz c h.o h.t))
theorem zcr(fs:List Fld)(s:zB):z1V fs s=.tuple [I (atV fs s:Int),B (z0M fs s)]:=by
 unfold z1V atV z0M;by_cases h:fieldAt fs s<0
 ·rw[if_pos h,decide_eq_true h];have:(fieldAt fs s).toNat=0:=by omega
  rw[this];rfl
 ·rw[if_neg h,decide_eq_false h];have:((fieldAt fs s).toNat:Int)=fieldAt fs s:=by omega
  rw[this];rfl
theorem zkP(g:Sh.Glob)(c:Cls)(h:Chg)(i:Nat)(b:Bool)(x o:PV)(s t:zB)(hl:c.fs.length≤4611686018427387904):zC g 239 [.pv (.el (wkP c h i b x o)),S (str s),S (str t)] [] (B (z32 c.fs s t)) []:=by
 have HF:=z5G g c s hl;rw[zcr]at HF;have hv:z32 c.fs s t=(!z0M c.fs s||(s==t)):=by unfold z32 z0M;simp
 rw[hv];generalize z0M c.fs s=q at*;generalize atV c.fs s=j at*;refine za tf_6 ?_;unfold clT wkP B at*;cases q
 ·simp only[vW,seval];refine z8 HF ?_;rfl
 ·simp only[vW,seval];exact zd HF
theorem zkw(c:Cls)(t:Ty)(x:Tl):∃p,tlT c t x=p∧z9d true (some (.pv p))=some (.pv (.v (.bool x.is)),.no):=by
 cases x<;>exact⟨_,rfl,rfl⟩
def zer(k:Int):Nat:=if k=1 then 187 else if k=2 then 190 else if k=3 then 193 else if k=4 then 196 else if k=5 then 199 else 202
def ze5(k:Int):Nat:=if k=1 then 188 else if k=2 then 191 else if k=3 then 194 else if k=4 then 197 else if k=5 then 200 else 203
def zff(k:Int):Nat:=if k=1 then 189 else if k=2 then 192 else if k=3 then 195 else if k=4 then 198 else if k=5 then 201 else 195
theorem zpu(g:Sh.Glob)(c:Cls)(h:Chg)(hk:h.k=1∨h.k=2∨h.k=3∨h.k=4∨h.k=5∨h.k=6)(hl:c.fs.length≤4611686018427387904):zC g (zer h.k) [.pv (.el (wkC c h))] [] (B (z0z c h)) []:=by
 have HF:=fun s t=>zkP g c h (atV c.fs h.f) (z0M c.fs h.f) (tlT c h.t (zz c h.x h.t)) (tlT c h.t (zz c h.o h.t)) s t hl;have e0:=bS [];have hidx:z0M c.fs h.f=true→∃f,c.fs[atV c.fs h.f]?=some f∧c.fs.getD (atV c.fs h.f) z4e=f:=by
  intro hh;unfold z0M at hh;have h0:¬fieldAt c.fs h.f<0:=by simpa using hh
  obtain⟨f,hf,_⟩:=z3m (fun f:Fld=>f.n==h.f) c.fs (atV c.fs h.f) (by unfold atV fieldAt at*;omega);exact⟨f,hf,by rw[List.getD_eq_getElem?_getD,hf];rfl⟩
 unfold wkC;obtain⟨px,hpx,nx⟩:=zkw c h.t (zz c h.x h.t);obtain⟨po,hpo,no⟩:=zkw c h.t (zz c h.o h.t);rw[hpx,hpo]at HF ⊢;unfold z0z zer;generalize(zz c h.x h.t).is=bx at*;generalize(zz c h.o h.t).is=bo at*;generalize atV c.fs h.f=i at*;generalize z0M c.fs h.f=hb at*;clear hpx hpo;obtain⟨k,f,n,m,t,x,o⟩:=h;simp only[]at*;rcases hk with rfl|rfl|rfl|rfl|rfl|rfl
 ·rw[if_pos rfl,if_pos rfl];refine za tf_9 ?_;have HF:=HF n [];unfold wkP B at*;by_cases h8:(c.fs.length:Int)<8
  ·have h8':c.fs.length<8:=by omega
   rw[decide_eq_true h8',Bool.true_and];simp only[vW,seval,h8,e0,clV];refine z7 HF ?_;cases z32 c.fs n []
   ·simp only[vW,seval]
   ·simp only[vW,seval,nx]
  ·have h8':¬c.fs.length<8:=by omega
   rw[decide_eq_false h8'];simp only[vW,seval,h8,clV]
 ·rw[if_neg (by decide),if_pos rfl,if_neg (by decide),if_pos rfl];refine za tf_10 ?_;unfold wkP B at*;simp only[vW,seval]
 ·rw[if_neg (by decide),if_neg (by decide),if_pos rfl,if_neg (by decide),if_neg (by decide),if_pos rfl];refine za tf_12 ?_;have HF:=HF n [];unfold wkP B at*;cases hb
  ·simp only[vW,seval]
  ·simp only[vW,seval,e0];exact zd HF
 ·rw[if_neg (by decide),if_neg (by decide),if_neg (by decide),if_pos rfl,if_neg (by decide),if_neg (by decide),if_neg (by decide),if_pos rfl];refine za tf_14 ?_;unfold wkP B at*;cases hb
  ·simp only[vW,seval]
  ·simp only[vW,seval,nx]
 ·rw[if_neg (by decide),if_neg (by decide),if_neg (by decide),if_neg (by decide),if_pos rfl,if_neg (by decide),if_neg (by decide),if_neg (by decide),if_neg (by decide),if_pos rfl];refine za tf_13 ?_;have HF1:=HF n f;have HF2:=HF m f;unfold wkP B at*;cases hb
  ·simp only[vW,seval]
  by_cases h8:(8:Int)≤(c.fs.length:Int)
  ·have h8':¬c.fs.length<8:=by omega
   rw[decide_eq_false h8'];simp only[vW,seval,h8,clV]
  ·have h8':c.fs.length<8:=by omega
   rw[decide_eq_true h8'];cases hnm:(n==m)
   ·simp only[vW,seval,h8,hnm,clV];refine z7 HF1 ?_;cases z32 c.fs n f
    ·simp only[vW,seval]
    simp only[vW,seval];refine z7 HF2 ?_;cases z32 c.fs m f
    ·simp only[vW,seval]
    simp only[vW,seval,nx];cases bx
    ·simp only[vW,seval]
    ·simp only[vW,seval,no]
   ·simp only[vW,seval,h8,hnm,clV]
 ·rw[if_neg (by decide),if_neg (by decide),if_neg (by decide),if_neg (by decide),if_neg (by decide),if_neg (by decide),if_neg (by decide),if_neg (by decide),if_neg (by decide),if_neg (by decide)];refine za tf_11 ?_;unfold wkP B at*;cases hb
  ·simp only[vW,seval]
  ·obtain⟨fd,ef,eg⟩:=hidx rfl;rw[eg];simp only[vW,seval,ef,clV]
end Go.Proofs.YtcpaleaajdilgaaGreatDoor
end

section
namespace Go.Sh
open Go Go.RowKit
theorem zkt{w:World}{E:Env}{N:Nat}:∀d b,¬(start w E [] N).X d b:=fun d b hx=>by
 rcases hx with⟨cs,h1,_⟩|⟨q,cap,h1,_⟩<;>grind [z01,zm]
theorem z0W{w:World}{E:Env}{N:Nat}:∀d,¬(start w E [] N).old d:=fun d h=>by have h1:=h.1;have h2:d<1000+0:=h.2;omega
theorem z3Q{e W n d:Nat}{q:Nat×Nat×Nat}(h:zm [.row e W n] d=some q):d=1000∧q=(e,W,n):=by
 grind [zm]
theorem z5K{cs:List TV}{d:Nat}{c:List TV}(h:z01 [.box cs] d=some c):d=1000∧c=cs:=by
 grind [z01]
theorem z4B{e W n d:Nat}:z01 [.row e W n] d=none:=by
 grind [z01]
theorem z4C{cs:List TV}{d:Nat}:zm [.box cs] d=none:=by
 grind [zm]
theorem z8q{X:Nat→Nat→Prop}{w w':World}(h:Below w.heap.size w w'):Low X w w':=⟨h.os,h.tape,h.output,h.size,fun k hk _=>h.block k hk⟩
theorem zeA{P:Program}{g:Glob}{f:Nat}{xs:List TV}{e W:Nat}{es:List (List PV)}(hW:0<W)(hb:z3q P f)
  (h:∀(w:World) (E:Env) (us:List Value),g.G w→xs.length=us.length→(∀(j:Nat) x v,xs[j]?=some x→us[j]?=some v→RelT w E (zm []) x v)→
   ∃(news:List Value) (F:Nat→Nat→Value),News w E.K W es news F∧Calls P f us.toArray w fun o w'=>∃v',o=.returned v'∧w'.ownsRow w.heap.size e W v' es.length news∧Below w.heap.size w w'):
  SCalls P g f xs [] (.own 1000 W es) [.row e W es.length]:=by
 refine⟨hb,fun w E us hG hm hX hl hr=> ?_⟩;obtain⟨news,F,hn,hc⟩:=h w E us hG hl hr;refine hc.mono ?_;rintro o w' ⟨v',rfl,hown,hbel⟩;have hk0:∀b o u,E.K b o→w.cell? ⟨b,o,none⟩=some u→w'.cell? ⟨b,o,none⟩=some u:=fun b o u h1 h2=>(hbel.cell (z1p h2)).trans h2;obtain⟨hlen,hown⟩:=hown;rcases hown with⟨rfl,h0⟩|⟨k,cap,cur,rfl,hk,hcur,hle,hmax,hsz,htake⟩
 ·have hes:es=[]:=List.eq_nil_of_length_eq_zero h0;subst hes;refine⟨_,{ E with γ:=fun j=>if j=1000 then none else E.γ j },rfl,⟨fun d cs hd=>(by grind [z4B]),fun d e' W' n hd=> ?_,fun d d' cs cs' hd=>(by grind [z4B]),fun d d' cs q k cap hd=>(by grind [z4B]),fun d d' q q' k cap cap' h1 h2 h3=> ?_,fun k o ho=>Nat.lt_of_lt_of_le (hm.lt k o ho) hbel.size,z8q hbel,fun k o u h1 h2=>⟨h1,hk0 k o u h1 h2⟩,fun k o h1=> .inl h1,⟨fun d hd=>absurd hd (z0W d),fun d hd=>absurd hd (z0W d),fun d e W n hd=>absurd hd (z0W d)⟩⟩,?_,⟨fun d h1 h2=>absurd h2 (by omega),fun d h1 h2=>absurd h2 (by omega),fun d e W n hd=>by simp[zm]at hd⟩⟩
  ·obtain⟨rfl,hq⟩:=z3Q hd
   grind
  ·obtain⟨rfl,_⟩:=z3Q h1;simp at h3
  ·refine .own 1000 W [] _ (.sl W [] 0 0 0 none (fun _ _=>undef) (by simp) (by simp) (Nat.zero_le _) (by simp) (by simp) (by simp)) (fun e' W' n hd=> ?_);obtain⟨_,hq⟩:=z3Q hd;cases hq;exact⟨Nat.le_refl _,fun _=>⟨rfl,by simp[hdr]⟩⟩
 ·have hcell:∀(j:Nat) u,news[j]?=some u→w'.cell? ⟨k,j,none⟩=some u:=fun j u hj=>by
   have hj':j<es.length*W:=by grind
   have:=World.ownsRow.cellAt (w:=w') (base:=w.heap.size) (e:=e) (size:=W) (g:=k) (n:=es.length) (cap:=cap) (xs:=news) ⟨hlen,.inr ⟨k,cap,cur,rfl,hk,hcur,hle,hmax,hsz,htake⟩⟩ j hj'
   grind
  let K':Nat→Nat→Prop:=fun b o=>E.K b o∨(b=k∧o<es.length*W)
  have hkk:∀b o u,E.K b o→w.cell? ⟨b,o,none⟩=some u→K' b o∧w'.cell? ⟨b,o,none⟩=some u:=fun b o u h1 h2=>⟨.inl h1,hk0 b o u h1 h2⟩
  have hklt:k<w'.heap.size:=(gA hcur).1;refine⟨_,{ E with K:=K',γ:=fun j=>if j=1000 then some (k,cap)else E.γ j },rfl,⟨fun d cs hd=>(by grind [z4B]),fun d e' W' n hd=> ?_,fun d d' cs cs' hd=>(by grind [z4B]),fun d d' cs q k cap hd=>(by grind [z4B]),fun d d' q q' k cap cap' h1 h2 h3 _=> ?_,fun b o ho=> ?_,z8q hbel,fun b o u h1 h2=>⟨.inl h1,hk0 b o u h1 h2⟩,fun b o h1=> ?_,⟨fun d hd=>absurd hd (z0W d),fun d hd=>absurd hd (z0W d),fun d e W n hd=>absurd hd (z0W d)⟩⟩,?_,⟨fun d h1 h2=>absurd h2 (by grind),fun d h1 h2=>absurd h2 (by grind),fun d e W n hd=>by simp[zm]at hd⟩⟩
  ·obtain⟨rfl,hq⟩:=z3Q hd;cases hq;refine .inr ⟨k,cap,by simp,.inl hk,⟨⟨cur,hcur,hsz⟩,hle,hmax,fun o ho=> ?_⟩⟩;rcases ho with ho|⟨_,ho⟩
   ·exact absurd (hm.lt k o ho) (by omega)
   ·exact ho
  ·obtain⟨rfl,_⟩:=z3Q h1
   grind [z3Q]
  ·rcases ho with ho|⟨rfl,_⟩
   ·exact Nat.lt_of_lt_of_le (hm.lt b o ho) hbel.size
   ·exact hklt
  ·rcases h1 with h1|⟨rfl,_⟩
   ·exact .inl h1
   ·exact .inr (.inl hk)
  ·refine .own 1000 W es _ (.sl W es k 0 cap _ F (fun _=>rfl) hle hmax hn.len (fun i j cs c h1 h2=> ?_) (fun i j cs c h1 h2=> ?_)) (fun e' W' n hd=> ?_)
   ·obtain⟨n1,n2,_⟩:=hn.at_ i j cs c h1 h2
    grind
   ·exact(hn.at_ i j cs c h1 h2).2.2.mono hkk
   ·obtain⟨_,hq⟩:=z3Q hd;cases hq;exact⟨Nat.le_refl _,fun _=>⟨rfl,by simp[hdr]⟩⟩
def PV.flat:PV→Bool
 | .v _=>true
 | .sl _ []=>true
 |_=>false
theorem zlw{w:World}{K K':Nat→Nat→Prop}{p:PV}{v:Value}(hp:p.flat=true)(h:RelV w K p v):RelV w K' p v:=by
 cases h with
 |v=>exact .v _
 |sl W es b off cap p f hp' hcap hmax hW hc hs=>
  cases es with
  |nil=>exact .sl W [] b off cap p f hp' hcap hmax hW (by simp) (by simp)
  |cons x l=>simp[PV.flat]at hp
 |_=>simp[PV.flat]at hp
theorem SCalls.boxed{P:Program}{g:Glob}{f:Nat}{xs:List TV}{e W:Nat}{es:List (List PV)}(h:SCalls P g f xs [] (.own 1000 W es) [.row e W es.length])(hne:es≠[])(hfl:∀cs∈es,cs.length=W∧∀c∈cs,c.flat=true):
  SCalls P g f xs [] (.bs 1000 0 es.length es.length) [.box (es.flatten.map TV.pv)]:=by
 refine⟨h.1,fun w E us hG hm hX hl hr=>(h.2 w E us hG hm hX hl hr).mono ?_⟩;rintro o w' ⟨v,E',rfl,hM,hrel,hleft⟩;have hq:zm [.row e W es.length] 1000=some (e,W,es.length):=by simp[zm]
 cases hrel with
 |own _ _ _ _ hv hown=>
 obtain⟨_,hval⟩:=hown e W es.length hq;obtain⟨_,rfl⟩:=hval rfl;have hpos:0<es.length:=List.length_pos_iff.2 hne;rcases hM.row 1000 e W es.length hq with⟨_,h0⟩|⟨k,cap,hg,hk,hrow⟩
 ·omega
 have hk:w.heap.size≤k:=by
  rcases hk with hk|hk
  ·exact hk
  ·exact absurd hk (zkt _ _)
 rw[hg]at hv ⊢;obtain⟨cur,hcur,hsz⟩:=hrow.cells;obtain⟨b,off,cap',p,F,he,hp,_,_,hWs,hcs⟩:=z0E hv;have hpe:=hp hne;subst hpe;obtain⟨⟨rfl,rfl,_⟩,_,rfl⟩:=he;have hno:∀d,¬(start w E [] 0).old d:=z0W;have hcl:cur.toList.length=cap*W:=by rw[Array.length_toList];exact hsz
 have htk:(cur.toList.take (es.length*W)).length=es.length*W:=by rw[List.length_take,hcl];exact Nat.min_eq_left (Nat.mul_le_mul_right W hrow.le)
 refine⟨_,{ E' with K:=fun b o=>E'.K b o∧b≠k,β:=fun j=>if j=1000 then k else E'.β j },rfl,⟨fun d cs hd=> ?_,fun d e' W' n hd=>(by rw[z4C]at hd;cases hd),fun d d' cs cs' h1 h2 _=> ?_,fun d d' cs q k cap _ h2=>(by rw[z4C]at h2;cases h2),fun d d' q q' k cap cap' h1=>(by rw[z4C]at h1;cases h1),fun b o ho=>hM.lt b o ho.1,hM.low,fun b o u h1 h2=> ?_,fun b o h1=>hM.knew b o h1.1,⟨fun d hd=>absurd hd (hno d),fun d hd=>absurd hd (hno d),fun d e W n hd=>absurd hd (hno d)⟩⟩,?_,⟨fun d h1 h2=>absurd h2 (by simp;omega),fun d h1 h2=>absurd h2 (by simp;omega),fun d e W n hd=>by simp[zm]at hd⟩⟩
 ·obtain⟨rfl,rfl⟩:=z5K hd;refine⟨⟨(gA hcur).1,⟨_,_,_,hcur⟩,fun o=> ?_,fun j c hj=> ?_,fun o ho=>ho.2 rfl⟩,.inl hk⟩
  ·exact World.ownsRow.frozenAt (w:=w') (base:=0) (e:=e) (size:=W) (g:=k) (n:=es.length) (cap:=cap) (xs:=cur.toList.take (es.length*W)) ⟨htk,.inr ⟨k,cap,cur,rfl,Nat.zero_le _,hcur,hrow.le,hrow.max,hsz,rfl⟩⟩ o
  ·rw[List.getElem?_map]at hj;obtain⟨p,hp,rfl⟩:=gO hj;obtain⟨i,q,cs,h1,h2,rfl⟩:=z9b (fun cs h=>(hfl cs h).1) hp;obtain⟨⟨_,c2,c3⟩,c4⟩:=hcs i q cs p h1 h2;rw[Nat.zero_add]at c2;exact⟨_,c2,c3,.pv (zlw ((hfl cs (gM h1)).2 p (gM h2)) c4)⟩
 ·obtain⟨rfl,_⟩:=z5K h1;obtain⟨rfl,_⟩:=z5K h2;rfl
 ·obtain⟨h3,h4⟩:=hM.keep b o u h1 h2;refine⟨⟨h3,fun hb=> ?_⟩,h4⟩;have:b<w.heap.size:=z1p h2;omega
 ·have:(⟨(if(1000:Nat)=1000 then k else E'.β 1000),0,none⟩:Addr)=⟨k,0,none⟩:=by simp
  exact .bs (E:={ E' with K:=fun b o=>E'.K b o∧b≠k,β:=fun j=>if j=1000 then k else E'.β j }) 1000 0 es.length es.length cap (Nat.le_refl _) hrow.le hrow.max
end Go.Sh
end

section
namespace Go.Proofs.YtcpaleaajdilgaaGreatDoor
open Go Go.RowKit Go.Mor Go.Sh
section
open Go.Lib
theorem zeg{P:Program}{t:TypeId}{z:Value}{n b:Nat}(h:(P.info? t).map (fun i=>(i.zero,i.size,i.bytes))=some (some z,n,b)):∃i,P.info? t=some i∧i.zero=some z∧i.size=n∧i.bytes=b:=by
 obtain⟨i,h1,h2⟩:=gO h;simp only[Prod.mk.injEq]at h2;exact⟨i,h1,h2.1,h2.2.1,h2.2.2⟩
theorem zpk:(Tryz.prog.info? 55).map (fun i=>(i.zero,i.size,i.bytes))=some (some (.agg #[.string ⟨#[]⟩,.int .i64 0,.int .i64 0,.bool false]),4,40):=by kernel_rfl
theorem zqS:(Tryz.prog.info? 37).map (fun i=>(i.zero,i.size,i.bytes))=some (some (.agg #[.int .i64 0,.int .i64 0,.string ⟨#[]⟩,.slice none 0 0]),4,56):=by kernel_rfl
theorem ziW(ad:Addr)(n c:Nat)(news:List Value)(w:World)(hl:news.length=n*4)(hn:n≤maxLen)(hbig:n*40≤140737488355328)(hc:∀j u,news[j]?=some u→w.cell? (ad.add j)=some u)(h1:∀u∈news,u.oneCell'=true):
  Calls Tryz.prog 240 #[.slice (some ad) n c] w fun e w'=>∃v',e=.returned v'∧w'.ownsRow w.heap.size 55 4 v' n news∧Below w.heap.size w w':=by
 have mixed:=zf;obtain⟨i0,hi,hz0,hz1,hz2⟩:=zeg zpk;have t22:=Tryz.underlying27;have q22:∀(w:World) (a:Option Addr) (n c n' c':Nat),(binOp .eql 27 (.slice a n c) (.slice none n' c')).run Tryz.prog w=.ok (.bool a.isNone) w:=fun w a n c n' c'=>Lib.run_eql_slice_nil w _ _ a n c n' c' t22;have A:Aside (∀j u,news[j]?=some u→w.cell? (ad.add j)=some u):=hc;clear hc
 go_enter Tryz.func240,Tryz.ntmps240
 go_wp2_with (at_builtin;refine wpList_append_own _ rfl _ _ 27 rfl w.heap.size 55 i0 _ 4 40 t22 hi hz0 hz1 hz2 rfl (by decide) _ _ _ rfl (World.ownsRow_made w #[] 0 (Nat.le_refl _) (Nat.zero_le _) (by simp)) ad n c news rfl ?qc1 ?qc2 ?qc3 ?qc4 ?qc5 ?qc6 ?_)
 case qc1=>exact hl
 case qc2=>
  intro j u hj;exact Lib.cell?_alloc_some _ (A.out j u hj)
 case qc3=>exact h1
 case qc4=>rw[Nat.zero_add];exact hn
 case qc5=>rw[Nat.zero_add];exact hbig
 case qc6=>simp
 intro v' w1 hown hgrow hnil
 go_wp2
 go_ret
 refine⟨v',rfl,by simpa using hown,?_⟩;exact((Below.refl _ w).alloc (Nat.le_refl _) _).grown hgrow (by simp) (by intro k hk;simp[Value.ownBlock]at hk;omega)
theorem ziX(n c:Nat)(w:World):Calls Tryz.prog 240 #[.slice none n c] w fun e w'=>e=.returned (.slice none 0 0)∧w'=w:=by
 have mixed:=zf;have t22:=Tryz.underlying27;have q22:∀(w:World) (a:Option Addr) (n c n' c':Nat),(binOp .eql 27 (.slice a n c) (.slice none n' c')).run Tryz.prog w=.ok (.bool a.isNone) w:=fun w a n c n' c'=>Lib.run_eql_slice_nil w _ _ a n c n' c' t22
 go_enter Tryz.func240,Tryz.ntmps240
 go_wp2
 go_ret
 exact⟨rfl,rfl⟩
theorem zdQ(g:Sh.Glob)(l:List Fld)(hm:l.length≤maxLen)(hbig:l.length*40≤140737488355328):zC g 240 [.pv (.sl 4 (flR l))] [] (.own 1000 4 (flR l)) [.row 55 4 (flR l).length]:=by
 refine zeA (by decide) (z0A (by kernel_rfl)) fun w E us hG hl hr=> ?_;obtain⟨u,rfl⟩:∃u,us=[u]:=by
  match us,hl with
  |[u],_=>exact⟨u,rfl⟩
 have hu:=hr 0 _ u rfl rfl;cases hu with
 |pv hu=>
 obtain⟨news,F,h1,h2,h3,p,cap,rfl,h4⟩:=zgx (by decide) hu;refine⟨news,F,h1,?_⟩;cases p with
 |none=>
  have he:flR l=[]:=by
   rcases h4 with h4|⟨ad,h4,_⟩
   ·exact h4
   ·cases h4
  have hn0:news=[]:=List.eq_nil_of_length_eq_zero (by rw[h2,he];rfl);refine(ziX _ _ w).mono ?_;rintro e w' ⟨rfl,rfl⟩;rw[hn0,he];exact⟨_,rfl,World.ownsRow_nil _ _ _ _,.refl _ _⟩
 |some ad=>
  refine ziW ad _ cap news w h2 (by rw[z3n];exact hm) (by rw[z3n];exact hbig) ?_ h3;rcases h4 with h4|⟨ad',h4,h5⟩
  ·intro j u hj;have hn0:news=[]:=List.eq_nil_of_length_eq_zero (by rw[h2,h4];rfl);rw[hn0]at hj;simp at hj
  ·cases h4;exact h5
theorem zjo(n:Nat)(w:World)(hn:0<n)(hbig:n*40≤140737488355328)(h63:n≤4611686018427387904):
  Calls Tryz.prog 280 #[.slice none 0 0,.int .i64 n] w fun e w'=>∃v',e=.returned v'∧w'.ownsRow w.heap.size 55 4 v' 0 []∧Below w.heap.size w w':=by
 have mixed:=zf;obtain⟨i0,hi,hz0,hz1,hz2⟩:=zeg zpk;have t22:=Tryz.underlying27;have t3:=Tryz.underlying3;have q1:¬((n:Int)<0):=by omega
 have q2:RowKit.wrap64 ((0:Int) - 0)=0:=by unfold RowKit.wrap64;omega
 have q3:RowKit.wrap64 ((n:Int) - 0)=(n:Int):=by unfold RowKit.wrap64;omega
 have q4:(n:Int)>0:=by omega
 have hrz:∀ty,(Builtin.append_ #[27,3] ty #[.slice none 0 0,.int .i64 (n:Int)]).run Tryz.prog w=
   .ok (.slice (some ⟨w.heap.size,0,none⟩) n (grownCap w n 0 55)) (w.drew.alloc (.cells ((#[]:Array Value)++Builtin.zeroCells (.agg #[.string ⟨#[]⟩,.int .i64 0,.int .i64 0,.bool false]:Value).cells n++Builtin.zeroCells (.agg #[.string ⟨#[]⟩,.int .i64 0,.int .i64 0,.bool false]:Value).cells (grownCap w n 0 55-n)) 55)):=fun ty=>by
  have h:=Lib.run_append_grow_zeros w 27 3 ty 55 i0 _ .i64 .i64 t22 t3 hi hz0 none 0 0 [] (run_firstCells_none w.drew i0.size 0 0 0) n hn (by omega) (by omega) (by omega) (by rw[hz2];omega) (by rw[hz2,Nat.zero_add];exact growslice_fits (by omega) (by omega));rw[Nat.zero_add]at h;exact h
 have hGn:n≤grownCap w n 0 55:=by have:=grownCap_ge w n 0 55;omega
 obtain⟨G,hG⟩:∃G,G=grownCap w n 0 55:=⟨_,rfl⟩
 rw[←hG]at hrz hGn;have hG63:G≤maxLen:=by
  have:=grownCap_le_maxLen w n 0 55 (by unfold maxLen;omega);rw[←hG]at this;exact this
 have hG64:G≤9223372036854775807:=hG63;clear hG
 go_enter Tryz.func280,Tryz.ntmps280
 go_wp2_with (at_builtin;refine Lib.wpList_append_run _ rfl _ _ _ _ rfl _ _ rfl rfl _ _ (hrz _) ?_)
 all_goals(go_ret;refine⟨_,rfl,⟨rfl,.inr ⟨w.heap.size,G,_,rfl,Nat.le_refl _,heap_alloc_new w.drew _,Nat.zero_le _,hG63,?_,by simp⟩⟩,((Below.refl _ w).drew).alloc (by simp) _⟩)
 all_goals(simp[Builtin.zeroCells,Value.cells];omega)
theorem zhy(w:World):Calls Tryz.prog 280 #[.slice none 0 0,.int .i64 0] w fun e w'=>∃v',e=.returned v'∧w'.ownsRow w.heap.size 55 4 v' 0 []∧Below w.heap.size w w':=by
 have mixed:=zf;have t22:=Tryz.underlying27;have q1:¬((0:Int)<0):=by omega
 have q2:RowKit.wrap64 ((0:Int) - 0)=0:=by unfold RowKit.wrap64;omega
 have q4:¬(0:Int)>0:=by omega
 go_enter Tryz.func280,Tryz.ntmps280
 go_wp2
 go_ret
 exact⟨_,rfl,World.ownsRow_nil _ _ _ _,.refl _ _⟩
theorem zlE(g:Sh.Glob)(n:Nat)(hbig:n*40≤140737488355328)(h63:n≤4611686018427387904):zC g 280 [.pv (.v (.slice none 0 0)),I (n:Int)] [] (.own 1000 4 []) [.row 55 4 0]:=by
 refine zeA (es:=[]) (by decide) (z0A (by kernel_rfl)) fun w E us hG hl hr=> ?_;obtain⟨u,u',rfl⟩:∃u u',us=[u,u']:=by
  match us,hl with
  |[u,u'],_=>exact⟨u,u',rfl⟩
 obtain rfl:=val_rel (hr 0 _ u rfl rfl) rfl;obtain rfl:=znb (hr 1 _ u' rfl rfl);refine⟨[],fun _ _=>undef,⟨by simp,by simp⟩,?_⟩;by_cases h:n=0
 ·subst h;exact zhy w
 ·exact zjo n w (by omega) hbig h63
theorem zjp(n:Nat)(w:World)(hn:0<n)(hbig:n*56≤140737488355328)(h63:n≤4611686018427387904):
  Calls Tryz.prog 281 #[.slice none 0 0,.int .i64 n] w fun e w'=>∃v',e=.returned v'∧w'.ownsRow w.heap.size 37 4 v' 0 []∧Below w.heap.size w w':=by
 have mixed:=zf;obtain⟨i0,hi,hz0,hz1,hz2⟩:=zeg zqS;have t22:=Tryz.underlying31;have t3:=Tryz.underlying3;have q1:¬((n:Int)<0):=by omega
 have q2:RowKit.wrap64 ((0:Int) - 0)=0:=by unfold RowKit.wrap64;omega
 have q3:RowKit.wrap64 ((n:Int) - 0)=(n:Int):=by unfold RowKit.wrap64;omega
 have q4:(n:Int)>0:=by omega
 have hrz:∀ty,(Builtin.append_ #[31,3] ty #[.slice none 0 0,.int .i64 (n:Int)]).run Tryz.prog w=
   .ok (.slice (some ⟨w.heap.size,0,none⟩) n (grownCap w n 0 37)) (w.drew.alloc (.cells ((#[]:Array Value)++Builtin.zeroCells (.agg #[.int .i64 0,.int .i64 0,.string ⟨#[]⟩,.slice none 0 0]:Value).cells n++Builtin.zeroCells (.agg #[.int .i64 0,.int .i64 0,.string ⟨#[]⟩,.slice none 0 0]:Value).cells (grownCap w n 0 37-n)) 37)):=fun ty=>by
  have h:=Lib.run_append_grow_zeros w 31 3 ty 37 i0 _ .i64 .i64 t22 t3 hi hz0 none 0 0 [] (run_firstCells_none w.drew i0.size 0 0 0) n hn (by omega) (by omega) (by omega) (by rw[hz2];omega) (by rw[hz2,Nat.zero_add];exact growslice_fits (by omega) (by omega));rw[Nat.zero_add]at h;exact h
 have hGn:n≤grownCap w n 0 37:=by have:=grownCap_ge w n 0 37;omega
 obtain⟨G,hG⟩:∃G,G=grownCap w n 0 37:=⟨_,rfl⟩
 rw[←hG]at hrz hGn;have hG63:G≤maxLen:=by
  have:=grownCap_le_maxLen w n 0 37 (by unfold maxLen;omega);rw[←hG]at this;exact this
 have hG64:G≤9223372036854775807:=hG63;clear hG
 go_enter Tryz.func281,Tryz.ntmps281
 go_wp2_with (at_builtin;refine Lib.wpList_append_run _ rfl _ _ _ _ rfl _ _ rfl rfl _ _ (hrz _) ?_)
 all_goals(go_ret;refine⟨_,rfl,⟨rfl,.inr ⟨w.heap.size,G,_,rfl,Nat.le_refl _,heap_alloc_new w.drew _,Nat.zero_le _,hG63,?_,by simp⟩⟩,((Below.refl _ w).drew).alloc (by simp) _⟩)
 all_goals(simp[Builtin.zeroCells,Value.cells];omega)
theorem zhz(w:World):Calls Tryz.prog 281 #[.slice none 0 0,.int .i64 0] w fun e w'=>∃v',e=.returned v'∧w'.ownsRow w.heap.size 37 4 v' 0 []∧Below w.heap.size w w':=by
 have mixed:=zf;have t22:=Tryz.underlying31;have q1:¬((0:Int)<0):=by omega
 have q2:RowKit.wrap64 ((0:Int) - 0)=0:=by unfold RowKit.wrap64;omega
 have q4:¬(0:Int)>0:=by omega
 go_enter Tryz.func281,Tryz.ntmps281
 go_wp2
 go_ret
 exact⟨_,rfl,World.ownsRow_nil _ _ _ _,.refl _ _⟩
theorem zlF(g:Sh.Glob)(n:Nat)(hbig:n*56≤140737488355328)(h63:n≤4611686018427387904):zC g 281 [.pv (.v (.slice none 0 0)),I (n:Int)] [] (.own 1000 4 []) [.row 37 4 0]:=by
 refine zeA (es:=[]) (by decide) (z0A (by kernel_rfl)) fun w E us hG hl hr=> ?_;obtain⟨u,u',rfl⟩:∃u u',us=[u,u']:=by
  match us,hl with
  |[u,u'],_=>exact⟨u,u',rfl⟩
 obtain rfl:=val_rel (hr 0 _ u rfl rfl) rfl;obtain rfl:=znb (hr 1 _ u' rfl rfl);refine⟨[],fun _ _=>undef,⟨by simp,by simp⟩,?_⟩;by_cases h:n=0
 ·subst h;exact zhz w
 ·exact zjp n w (by omega) hbig h63
end
section
open Go.Sh.Cd1 Go.Sh.Cd7
def slR(ls:List (List (List PV))):List (List PV):=ls.map fun l=>[PV.sl 4 l]
theorem zks(ls:List (List (List PV)))(i:Nat):(slR ls)[i]?=(ls[i]?).map fun l=>[PV.sl 4 l]:=by unfold slR;rw[List.getElem?_map]
theorem z6Y(ls:List (List (List PV))):(slR ls).length=ls.length:=by unfold slR;rw[List.length_map]
theorem slV:(type_of% @zks)∧(type_of% @z6Y):=⟨@zks,@z6Y⟩
def cat(ls:List (List (List PV)))(i:Nat):List (List PV):=(ls.take i).flatten
theorem z7c{ls:List (List (List PV))}{i:Nat}{l:List (List PV)}(h:ls[i]?=some l):cat ls (i+1)=cat ls i++l:=by
 unfold cat;rw[List.take_add_one,h];simp
theorem ziR(ls:List (List (List PV))):∀i,(cat ls i).length≤ls.flatten.length:=by
 intro i;unfold cat
 conv=>rhs;rw[←List.take_append_drop i ls,List.flatten_append,List.length_append]
 omega
theorem zga(ls:List (List (List PV))):cat ls ls.length=ls.flatten:=by unfold cat;rw[List.take_length]
theorem zhf(g:Sh.Glob)(ls:List (List (List PV)))(hl:ls.length≤1000)(hf:ls.flatten.length≤1000000):zC g 242 [.pv (.sl 1 (slR ls))] [] (.pv (.sl 4 ls.flatten)) []:=by
 have HG:=zlE g ls.flatten.length (by omega) (by omega);have hcat:=ziR ls;have hall:=zga ls;refine z9y tf_151 ?_;refine zw (σ:={i:Nat // i≤ls.length}) (fun i=>⟨[(0,.pv (.sl 1 (slR ls))),(3,I ((cat ls i.1).length:Int)),(9,.pv (.sl 1 (slR ls))),(10,I (ls.length:Int)),(11,I (i.1:Int))],[],[],[]⟩) (fun i=>ls.length-i.1) ⟨0,Nat.zero_le _⟩ ?_ ?_
 ·apply z06<;>simp[leL,lk,sv,Nat.beq,I,S,ES.kill,has,drp,zK,z6Y,cat]
 rintro⟨i,hi⟩;by_cases hlt:i<ls.length
 ·have d1:(i:Int)<(ls.length:Int):=by omega
  obtain⟨l,el⟩:∃l,ls[i]?=some l:=⟨_,gE hlt⟩
  have hc:=z7c el;have h1:=hcat (i+1);rw[hc,List.length_append]at h1;have w1:=wS i;have w2:IntKind.i64.wrap (((cat ls i).length:Int)+(l.length:Int))=((cat ls i).length:Int)+(l.length:Int):=wrap64 (by omega) (by omega);have d2:¬((cat ls i).length:Int)+(l.length:Int)<0:=by omega
  simp only[vW,seval,slV,d1,d2,el,w1,w2];refine zc ⟨i+1,hlt⟩ (by show ls.length-(i+1)<ls.length-i;omega) ?_;simp only[hc,List.length_append,Int.natCast_add];exact lwA
 have d1:¬(i:Int)<(ls.length:Int):=by omega
 obtain rfl:i=ls.length:=by omega
 rw[hall];simp only[vW,seval,slV,d1];refine z7 HG ?_;simp only[vW,seval,slV];refine zw (σ:={i:Nat // i≤ls.length}) (fun i=>⟨[(6,.own 2096 4 (cat ls i.1)),(25,.pv (.sl 1 (slR ls))),(26,I (ls.length:Int)),(27,I (i.1:Int))],[],[(2096,(55,4,(cat ls i.1).length))],[]⟩) (fun i=>ls.length-i.1) ⟨0,Nat.zero_le _⟩ ?_ ?_
 ·apply z06<;>simp[leL,lk,sv,Nat.beq,I,S,ES.kill,has,drp,zK,z6Y,cat]
 rintro⟨i,hi⟩;by_cases hlt:i<ls.length
 ·have d1:(i:Int)<(ls.length:Int):=by omega
  obtain⟨l,el⟩:∃l,ls[i]?=some l:=⟨_,gE hlt⟩
  have hc:=z7c el;have h1:=hcat (i+1);rw[hc,List.length_append]at h1;have w1:=wS i;simp only[vW,seval,slV,d1,el,w1];refine⟨⟨by omega,by unfold maxLen;omega⟩,zc ⟨i+1,hlt⟩ (by show ls.length-(i+1)<ls.length-i;omega) ?_⟩;simp only[hc,List.length_append];exact lwA
 have d1:¬(i:Int)<(ls.length:Int):=by omega
 obtain rfl:i=ls.length:=by omega
 rw[hall];simp only[vW,seval,slV,d1]
theorem zaW(g:Sh.Glob)(ls:List (List (List PV)))(hl:ls.length≤1000)(hf:ls.flatten.length≤1000000):zC g 243 [.pv (.sl 1 (slR ls))] [] (.pv (.sl 4 ls.flatten)) []:=by
 have HG:=zlF g ls.flatten.length (by omega) (by omega);have hcat:=ziR ls;have hall:=zga ls;refine z9y tf_152 ?_;refine zw (σ:={i:Nat // i≤ls.length}) (fun i=>⟨[(0,.pv (.sl 1 (slR ls))),(3,I ((cat ls i.1).length:Int)),(9,.pv (.sl 1 (slR ls))),(10,I (ls.length:Int)),(11,I (i.1:Int))],[],[],[]⟩) (fun i=>ls.length-i.1) ⟨0,Nat.zero_le _⟩ ?_ ?_
 ·apply z06<;>simp[leL,lk,sv,Nat.beq,I,S,ES.kill,has,drp,zK,z6Y,cat]
 rintro⟨i,hi⟩;by_cases hlt:i<ls.length
 ·have d1:(i:Int)<(ls.length:Int):=by omega
  obtain⟨l,el⟩:∃l,ls[i]?=some l:=⟨_,gE hlt⟩
  have hc:=z7c el;have h1:=hcat (i+1);rw[hc,List.length_append]at h1;have w1:=wS i;have w2:IntKind.i64.wrap (((cat ls i).length:Int)+(l.length:Int))=((cat ls i).length:Int)+(l.length:Int):=wrap64 (by omega) (by omega);have d2:¬((cat ls i).length:Int)+(l.length:Int)<0:=by omega
  simp only[vW,seval,slV,d1,d2,el,w1,w2];refine zc ⟨i+1,hlt⟩ (by show ls.length-(i+1)<ls.length-i;omega) ?_;simp only[hc,List.length_append,Int.natCast_add];exact lwA
 have d1:¬(i:Int)<(ls.length:Int):=by omega
 obtain rfl:i=ls.length:=by omega
 rw[hall];simp only[vW,seval,slV,d1];refine z7 HG ?_;simp only[vW,seval,slV];refine zw (σ:={i:Nat // i≤ls.length}) (fun i=>⟨[(6,.own 2096 4 (cat ls i.1)),(25,.pv (.sl 1 (slR ls))),(26,I (ls.length:Int)),(27,I (i.1:Int))],[],[(2096,(37,4,(cat ls i.1).length))],[]⟩) (fun i=>ls.length-i.1) ⟨0,Nat.zero_le _⟩ ?_ ?_
 ·apply z06<;>simp[leL,lk,sv,Nat.beq,I,S,ES.kill,has,drp,zK,z6Y,cat]
 rintro⟨i,hi⟩;by_cases hlt:i<ls.length
 ·have d1:(i:Int)<(ls.length:Int):=by omega
  obtain⟨l,el⟩:∃l,ls[i]?=some l:=⟨_,gE hlt⟩
  have hc:=z7c el;have h1:=hcat (i+1);rw[hc,List.length_append]at h1;have w1:=wS i;simp only[vW,seval,slV,d1,el,w1];refine⟨⟨by omega,by unfold maxLen;omega⟩,zc ⟨i+1,hlt⟩ (by show ls.length-(i+1)<ls.length-i;omega) ?_⟩;simp only[hc,List.length_append];exact lwA
 have d1:¬(i:Int)<(ls.length:Int):=by omega
 obtain rfl:i=ls.length:=by omega
 rw[hall];simp only[vW,seval,slV,d1]
theorem zkj{l:List V}{i:Nat}{v:V}(h:l[i]?=some v):V.rows (l.take (i+1))=V.rows (l.take i)++[V.row v]:=by rw[List.take_add_one,h];simp[V.rows]
theorem zlx(g:Sh.Glob):∀(n:Nat) (l:List V),SizeOf.sizeOf l≤n→l.length≤1000→(∀v∈l,VFew v)→zC g 241 [.pv (.sl 4 (V.rows l))] [] (.own 1000 4 (V.rows l)) [.row 37 4 l.length]:=by
 intro n
 induction n with
 |zero=>intro l hs;cases l<;>simp at hs
 |succ n ih=>
  intro l hs hl hf;have IH:∀v∈l,zC g 241 [.pv (.sl 4 (V.rows v.l))] [] (.own 1000 4 (V.rows v.l)) [.row 37 4 v.l.length]:=fun v hv=>by
   have h1:=List.sizeOf_lt_of_mem hv;have h2:=hf v hv;refine ih v.l ?_ h2.len (fun y hy=>h2.sub hy);cases v with
   |mk k m s vl=>
    have:SizeOf.sizeOf vl<SizeOf.sizeOf (V.mk k m s vl):=by simp;omega
    simp only[Vl];omega
  refine zgL tf_46 ?_;refine zw (σ:={i:Nat // i≤l.length}) (fun i=>⟨[(3,.own 3000 4 (V.rows (l.take i.1))),(6,.pv (.sl 4 (V.rows l))),(7,I (l.length:Int)),(8,I (i.1:Int))],[],[(3000,(37,4,i.1))],[]⟩) (fun i=>l.length-i.1) ⟨0,Nat.zero_le _⟩ ?_ ?_
  ·refine ES.Lw.trans ?_ (show ES.Lw ⟨[(3,zK),(6,.pv (.sl 4 (V.rows l))),(7,I (l.length:Int)),(8,I 0)],[],[],[]⟩ _ by exact lwA);refine ES.Lw.trans ?_ (z6L (k:=3) (d:=3000) (e:=37) (W:=4) (.inr (by decide)) rfl);exact z0Y rfl
  rintro⟨i,hi⟩;by_cases hlt:i<l.length
  ·have d1:(i:Int)<(l.length:Int):=by omega
   obtain⟨v,ev⟩:∃v,l[i]?=some v:=⟨_,gE hlt⟩
   have w1:=wS i;have HI:=IH v (gM ev);have hm:=zkj ev;have hlen:(l.take i).length=i:=by rw[List.length_take];omega
   simp only[vW,seval,d1,ev];refine z7 HI ?_;simp only[vW,seval,hlen,w1];refine⟨⟨by omega,by unfold maxLen;omega⟩,zc ⟨i+1,hlt⟩ (by show l.length-(i+1)<l.length-i;omega) ?_⟩;simp only[hm];apply z06<;>simp[leL,lk,sv,Nat.beq,I,S,ES.kill,has,drp,zK,z1k]
  have d1:¬(i:Int)<(l.length:Int):=by omega
  obtain rfl:i=l.length:=by omega
  rw[List.take_length];simp only[vW,seval,d1]
theorem z2b(g:Sh.Glob)(l:List V)(hl:l.length≤1000)(hf:∀v∈l,VFew v):zC g 241 [.pv (.sl 4 (V.rows l))] [] (.own 1000 4 (V.rows l)) [.row 37 4 l.length]:=zlx g _ l (Nat.le_refl _) hl hf
def flC(l:List Fld):List PV:=(flR l).flatten
theorem flW(l:List Fld):∀cs∈flR l,cs.length=4:=by
 intro cs h;unfold flR at h;obtain⟨f,_,rfl⟩:=List.mem_map.1 h;rfl
theorem z42(l:List Fld):(flC l).length=l.length*4:=by unfold flC;rw[z4u (flW l),z3n]
theorem zpb{l:List Fld}{k j:Nat}{f:Fld}{p:PV}(h:l[k]?=some f)(hj:(flR1 f)[j]?=some p):(flC l)[k*4+j]?=some p:=by
 unfold flC;exact z7h (flW l) (by rw[zhs,h];rfl) hj
theorem z5w{f':Fld}{p:PV}{j:Nat}(hj:j<4):∀{l:List Fld} {k:Nat} {f:Fld},l[k]?=some f→(flR1 f).set j p=flR1 f'→(flC l).set (k*4+j) p=flC (l.set k f')
 |[],k,f,h,_=>by simp at h
 |g::l,0,f,h,he=>by
  obtain rfl:g=f:=by simpa using h
  show(flR1 g++flC l).set (0*4+j) p=flR1 f'++flC l;rw[Nat.zero_mul,Nat.zero_add,List.set_append_left _ _ (by exact hj),he]
 |g::l,k+1,f,h,he=>by
  show(flR1 g++flC l).set ((k+1)*4+j) p=flR1 g++flC (l.set k f');have:(k+1)*4+j=(flR1 g).length+(k*4+j):=by show _=4+_;omega
  rw[this,List.set_append_right _ _ (by omega),Nat.add_sub_cancel_left,z5w hj (by simpa using h) he]
theorem zeI(y z:PV):∀{xs:List PV} {i:Nat},i+1<xs.length→List.take i (pvC xs)++[TV.pv y,TV.pv z]++List.drop (i+2) (pvC xs)=pvC ((xs.set i y).set (i+1) z)
 |[],i,h=>by simp at h
 |[a],i,h=>by simp at h
 |a::b::l,0,h=>rfl
 |a::b::l,i+1,h=>by
  have:=zeI y z (xs:=b::l) (i:=i) (by simpa using h);show TV.pv a::(List.take i (pvC (b::l))++[TV.pv y,TV.pv z]++List.drop (i+2) (pvC (b::l)))=TV.pv a::pvC (((b::l).set i y).set (i+1) z);rw[this]
theorem ziV(g:Sh.Glob)(l:List Fld)(hm:l.length≤1000)(hne:l≠[]):zC g 240 [.pv (.sl 4 (flR l))] [] (.bs 1000 0 l.length l.length) [.box (pvC (flC l))]:=by
 have h:=(zdQ g l (by unfold maxLen;omega) (by omega)).boxed (fun h=>hne (by unfold flR at h;simpa using h)) (fun cs hcs=>⟨flW l cs hcs,fun c hc=>by
  unfold flR at hcs;obtain⟨f,_,rfl⟩:=List.mem_map.1 hcs;simp only[flR1,List.mem_cons,List.not_mem_nil,or_false]at hc;rcases hc with rfl|rfl|rfl|rfl<;>rfl⟩)
 rw[z3n]at h;exact h
theorem z7x{α:Type}{l:List α}{i:Nat}{x:α}(h:i<l.length):z16 l i [x]=l.set i x:=by unfold z16;rw[List.set_eq_take_append_cons_drop,if_pos h];simp
theorem ze2(l:List Fld)(i:Nat)(xs:List Fld):flR (z16 l i xs)=(flR l).take i++flR xs++(flR l).drop (i+1):=by unfold flR z16;simp[List.map_take,List.map_drop]
theorem has_at{fs:List Fld}{s:zB}(h:z0M fs s=true):∃f,fs[atV fs s]?=some f∧f.n=s∧fs.getD (atV fs s) z4e=f:=by
 unfold z0M at h;have h0:¬fieldAt fs s<0:=by simpa using h
 obtain⟨f,hf,hn⟩:=z3m (fun f:Fld=>f.n==s) fs (atV fs s) (by unfold atV fieldAt at*;omega);exact⟨f,hf,by simpa using hn,by rw[List.getD_eq_getElem?_getD,hf];rfl⟩
theorem zjg(g:Sh.Glob)(c:Cls)(h:Chg)(hk:h.k=1∨h.k=2∨h.k=3∨h.k=4∨h.k=5∨h.k=6)(hl:c.fs.length≤1000)(hh:h.k≠1→z0M c.fs h.f=true):zC g (ze5 h.k) [.pv (.el (wkC c h))] [] (.pv (.sl 4 (flR (z1a c h)))) []:=by
 have HC:=zdQ g c.fs (by unfold maxLen;omega) (by omega);have HK2:=fun ls h1 h2=>zhf g ls h1 h2;have hidx:h.k≠1→∃f,c.fs[atV c.fs h.f]?=some f∧c.fs.getD (atV c.fs h.f) z4e=f:=fun hn=>by
  obtain⟨f,h1,_,h2⟩:=has_at (hh hn);exact⟨f,h1,h2⟩
 have HB:=fun(hne:c.fs≠[])=>ziV g c.fs hl hne;unfold wkC z1a ze5;generalize tlT c h.t (zz c h.x h.t)=px at*;generalize tlT c h.t (zz c h.o h.t)=po at*;generalize z0M c.fs h.f=hb at*;generalize atV c.fs h.f=i at*;obtain⟨k,f,n,m,t,x,o⟩:=h;simp only[]at*;by_cases h1:k=1
 ·subst h1;rw[if_pos rfl,if_pos rfl];refine z2X tf_2 ?_;unfold wkP;simp only[vW,seval];left;refine z7 HC ?_;simp only[vW,seval,clV];refine⟨⟨by omega,by unfold maxLen;omega⟩,?_⟩;simp[flR,flR1]
 obtain⟨fd,ef,eg⟩:=hidx h1;rw[eg];have hi:=(gJ ef).1;have hne:c.fs≠[]:=fun e=>by rw[e]at hi;simp at hi
 have HB:=HB hne;rcases hk with rfl|rfl|rfl|rfl|rfl|rfl
 ·exact absurd rfl h1
 ·rw[if_neg (by decide),if_pos rfl,if_neg (by decide),if_pos rfl];have w1:=wS i;refine z2X tf_4 ?_;unfold wkP;have HD:=HK2 [(flR c.fs).take i,(flR c.fs).drop (i+1)] (by show 2≤1000;decide) (by simp[z3n];omega);simp only[slR,List.map_cons,List.map_nil]at HD;have tl:List.take c.fs.length (flR c.fs)=flR c.fs:=List.take_of_length_le (by rw[z3n];omega);simp only[vW,seval,w1,clV,tl,List.drop_zero];refine⟨⟨by omega,by omega⟩,by omega,?_⟩;refine z8 HD ?_;rw[ze2];simp[flR]
 ·rw[if_neg (by decide),if_neg (by decide),if_pos rfl,if_neg (by decide),if_neg (by decide),if_pos rfl];refine z4U zf tf_15 rfl ?_
  conv in SFunc.code _=>reduce
  unfold wkP;refine z0R zf ?_;simp only[vW,seval];refine z0R zf ?_;simp only[vW,seval];refine z8 HB ?_;refine z0R zf ?_;simp only[vW,seval,clV];refine⟨by omega,by rw[z42];omega,?_⟩;rw[z9v (by rw[z42];omega),z5w (by decide) ef (f':=⟨n,fd.t,fd.ix⟩) rfl];refine z6X (z8f (k:=3) (d:=2036) (es:=flR (c.fs.set i ⟨n,fd.t,fd.ix⟩)) (c:=c.fs.length) rfl (flW _) (by show some _=some _;rw[z3n,List.length_set])) (z44 zf ?_);simp only[vW,seval];rw[z7x hi]
 ·rw[if_neg (by decide),if_neg (by decide),if_neg (by decide),if_pos rfl,if_neg (by decide),if_neg (by decide),if_neg (by decide),if_pos rfl];refine z4U zf tf_18 rfl ?_
  conv in SFunc.code _=>reduce
  unfold wkP;refine z0R zf ?_;simp only[vW,seval];refine z0R zf ?_;simp only[vW,seval];refine z8 HB ?_;refine z0R zf ?_;have hs1:List.take (i*4+1) (pvC (flC c.fs))++[TV.pv (.v (.int .i64 t.k)),TV.pv (.v (.int .i64 t.o))]++List.drop (i*4+1+2) (pvC (flC c.fs))=pvC (flC (c.fs.set i ⟨fd.n,t,fd.ix⟩)):=by
   rw[zeI _ _ (by rw[z42];omega),z5w (by decide) ef (f':=⟨fd.n,⟨t.k,fd.t.o⟩,fd.ix⟩) rfl,z5w (j:=2) (by decide) (f:=⟨fd.n,⟨t.k,fd.t.o⟩,fd.ix⟩) (by simp[hi]) (f':=⟨fd.n,t,fd.ix⟩) rfl,List.set_set]
  simp only[vW,seval,clV,hs1];refine⟨by omega,by rw[z42];omega,by omega,by rw[z42,List.length_set];omega,?_⟩;rw[z9v (by rw[z42,List.length_set];omega),z5w (by decide) (f:=⟨fd.n,t,fd.ix⟩) (by simp[hi]) (f':=⟨fd.n,t,false⟩) rfl,List.set_set];refine z6X (z8f (k:=3) (d:=2036) (es:=flR (c.fs.set i ⟨fd.n,t,false⟩)) (c:=c.fs.length) rfl (flW _) (by show some _=some _;rw[z3n,List.length_set])) (z44 zf ?_);simp only[vW,seval];rw[z7x hi]
 ·rw[if_neg (by decide),if_neg (by decide),if_neg (by decide),if_neg (by decide),if_pos rfl,if_neg (by decide),if_neg (by decide),if_neg (by decide),if_neg (by decide),if_pos rfl];have w1:=wS i;refine z2X tf_16 ?_;unfold wkP;have HD:=HK2 [(flR c.fs).take i,flR [⟨n,t,false⟩,⟨m,t,false⟩],(flR c.fs).drop (i+1)] (by show 3≤1000;decide) (by simp[flR];omega);simp only[slR,List.map_cons,List.map_nil,flR,flR1]at HD;have tl:List.take c.fs.length (flR c.fs)=flR c.fs:=List.take_of_length_le (by rw[z3n];omega);simp only[vW,seval,w1,clV,tl,List.drop_zero];refine⟨⟨by omega,by omega⟩,by omega,?_⟩;refine z8 HD ?_;rw[ze2];simp[flR,flR1]
 ·rw[if_neg (by decide),if_neg (by decide),if_neg (by decide),if_neg (by decide),if_neg (by decide),if_neg (by decide),if_neg (by decide),if_neg (by decide),if_neg (by decide),if_neg (by decide)];refine z4U zf tf_7 rfl ?_
  conv in SFunc.code _=>reduce
  unfold wkP;refine z0R zf ?_;simp only[vW,seval];refine z0R zf ?_;simp only[vW,seval];refine z8 HB ?_;refine z0R zf ?_;have hg:(pvC (flC c.fs))[i*4+3]?=some (TV.pv (.v (.bool fd.ix))):=by rw[zo6,zpb ef (j:=3) (p:=.v (.bool fd.ix)) rfl];rfl
  simp only[vW,seval,clV,hg];refine⟨by omega,by omega,by rw[z42];omega,?_⟩;rw[z9v (by rw[z42];omega),z5w (by decide) ef (f':=⟨fd.n,fd.t, !fd.ix⟩) rfl];refine z6X (z8f (k:=3) (d:=2036) (es:=flR (c.fs.set i ⟨fd.n,fd.t, !fd.ix⟩)) (c:=c.fs.length) rfl (flW _) (by show some _=some _;rw[z3n,List.length_set])) (z44 zf ?_);simp only[vW,seval];rw[z7x hi]
end
end Go.Proofs.YtcpaleaajdilgaaGreatDoor
end
