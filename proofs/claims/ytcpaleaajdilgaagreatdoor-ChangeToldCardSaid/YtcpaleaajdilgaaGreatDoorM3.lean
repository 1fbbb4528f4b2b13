/- Merged texts: S12 S13 S13p S14. No statement of the program is proved here. -/
import Derived.Test.YtcpaleaajdilgaaGreatDoorM1
import Derived.Test.YtcpaleaajdilgaaGreatDoorM2
set_option linter.unusedSimpArgs false
set_option linter.unusedVariables false
set_option maxRecDepth 100000
set_option maxHeartbeats 8000000
section
namespace Go.Sh
open Go Go.RowKit
section
structure SOper where
 dst:Option Nat
 guard:Option (Nat×Bool)
 fp:Option Nat
 op:SOp
def readsL(xs:List Arg):List Nat:=xs.flatMap Arg.reads
def readsO(x:Option Arg):List Nat:=match x with|some x=>x.reads|none=>[]
def SOp.reads:SOp→List Nat
 | .mov x| .un _ x| .cvi _ x| .cvs x| .b2s x| .slen x| .box x| .fld _ _ _ x| .fldA _ x| .ld _ _ x| .len x| .ext x _| .nchk x| .rng x| .nxt x| .mks _ _ x| .mkI _ x| .pan x| .fnil _ x=>x.reads
 | .pick c a b=>c.reads++a.reads++b.reads
 | .bin _ _ x y| .imm _ x y| .sidx x y| .st _ x y| .idxA _ x y| .app _ _ _ x y| .appS _ _ x y| .appN _ _ _ x y| .appB _ _ _ x y| .appNS _ _ x y| .lkp _ _ x y=>x.reads++y.reads
 | .bsl _ xs| .bslO _ _ xs| .call _ _ xs=>readsL xs
 | .callv x _ xs=>x.reads++readsL xs
 | .mkf _ a b=>readsL a++readsL b
 | .ssub x lo hi| .sub _ x lo hi=>x.reads++readsO lo++readsO hi
 | .new _=>[]
 | .build _ ps=>readsL (ps.map (·.2.2))
def SOper.reads(o:SOper):List Nat:=(match o.guard with|some (g,_)=>[g]|none=>[])++o.op.reads
def SOp.rb:SOp→Bool
 | .ld .. | .st .. =>true
 | .call _ m _| .callv _ m _=> !Nat.beq m 0
 |_=>false
def SOp.wb:SOp→Bool
 | .st .. =>true
 | .call _ m _| .callv _ m _=> !Nat.beq m 0
 |_=>false
def SOp.wr:SOp→Bool
 | .app .. | .appS .. =>true
 | .call _ m _| .callv _ m _=> !Nat.beq m 0
 |_=>false
def SOp.wi:SOp→Bool
 | .nxt .. =>true
 |_=>false
def only:List Nat→Option Nat
 |[d]=>some d
 |_=>none
theorem only_eq{I:List Nat}{k:Nat}(h:only I=some k):I=[k]:=by
 unfold only at h;split at h
 ·grind
 ·cases h
def SOp.foot(s:FS):SOp→Option Nat
 | .ld _ _ x=>match x.get s with|some (.ptr d _)=>some d|some (.pv (.el _))=>some 999|_=>none
 | .st _ x _=>match x.get s with|some (.ptr d _)=>some d|_=>none
 | .call _ m xs=>match seqO (fun x:Arg=>x.get s) xs with
  |some args=>only (handI s m args)
  |none=>none
 |_=>none
theorem foot_call{s:FS}{f m:Nat}{xs:List Arg}{args:List TV}(hx:seqO (fun x:Arg=>x.get s) xs=some args){k:Nat}(h:SOp.foot s (.call f m xs)=some k):handI s m args=[k]:=by
 grind [only,SOp.foot,only_eq]
theorem wb_rb{o:SOp}(h:o.wb=true):o.rb=true:=by cases o<;>first|exact h|cases h|rfl
section
variable{P:Program}{C:Oracle}{s s':FS}{dst:Option Nat}{d:Nat}
theorem z33{x:Arg}(h:∀k∈x.reads,s'.t k=s.t k):x.get s'=x.get s:=by
 cases x with
 |tmp t=>exact h t (by simp[Arg.reads])
 |val v=>rfl
theorem getL_congr{α:Type}{xs:List Arg}(h:∀k∈readsL xs,s'.t k=s.t k)(f:TV→Option α):seqO (fun x:Arg=>(x.get s').bind f) xs=seqO (fun x:Arg=>(x.get s).bind f) xs:=
 z142 fun x hx=>by rw[z33 fun k hk=>h k (List.mem_flatMap.2 ⟨x,hx,hk⟩)]
theorem z136{xs:List Arg}(h:∀k∈readsL xs,s'.t k=s.t k):seqO (fun x:Arg=>x.get s') xs=seqO (fun x:Arg=>x.get s) xs:=
 z142 fun x hx=>z33 fun k hk=>h k (List.mem_flatMap.2 ⟨x,hx,hk⟩)
theorem bound_congr{x:Option Arg}(h:∀k∈readsO x,s'.t k=s.t k)(n:Nat):bound s' n x=bound s n x:=by
 cases x with
 |none=>rfl
 |some x=>simp only[bound];rw[z33 h]
theorem z141{s:FS}{rows:Bool}:∀(n:Nat) (l seen:List Nat),∀x∈seen,x∈reach s rows n l seen
 |0,_,_,x,hx=>by simp only[reach];exact hx
 |n+1,[],_,x,hx=>by simp only[reach];exact hx
 |n+1,d::l,seen,x,hx=>by
  simp only[reach];split
  ·exact z141 n _ _ x hx
  ·split
   ·exact z141 n _ _ x (List.mem_append_left _ hx)
   ·split
    ·exact z141 n _ _ x (List.mem_append_left _ hx)
    ·exact z141 n _ _ x hx
theorem z115{rows:Bool}{R:List Nat}(hb:∀d,s.ment d→d∈R→s'.b d=s.b d)(hb2:∀d,s.ment d→(s'.b d=none ↔ s.b d=none))(hr:∀d,s.ment d→s'.r d=s.r d):∀(n:Nat) (l seen:List Nat),(∀d∈l,s.ment d)→((∀d∈reach s rows n l seen,d∈R)∨(∀d∈reach s' rows n l seen,d∈R))→reach s' rows n l seen=reach s rows n l seen
 |0,_,_,_,_=>by simp only[reach]
 |n+1,[],_,_,_=>by simp only[reach]
 |n+1,d::l,seen,h,hR=>by
  have hd:=h d (List.mem_cons_self ..);have hl:∀x∈l,s.ment x:=fun x hx=>h x (List.mem_cons_of_mem _ hx);simp only[reach,hr d hd]at hR;simp only[reach,hr d hd];cases hp:pos seen d with
  |some j=>rw[hp]at hR;exact z115 hb hb2 hr n l seen hl hR
  |none=>
   rw[hp]at hR;cases hs:s.b d with
   |some cs=>
    rw[hs]at hR;obtain⟨cs',hs'⟩:∃cs',s'.b d=some cs':=by
     cases hc:s'.b d<;>grind
    rw[hs']at hR;simp only at hR;have hdR:d∈R:=hR.elim (fun h=>h d (z141 _ _ _ d (by simp))) (fun h=>h d (z141 _ _ _ d (by simp)));have he:=hb d hd hdR;rw[hs,hs']at he;cases he;rw[hs'];refine z115 hb hb2 hr n _ _ (fun x hx=> ?_) hR;rcases List.mem_append.1 hx with hx|hx
    ·obtain⟨c,hc,hx⟩:=List.mem_flatMap.1 hx;exact .inr ⟨d,cs,c,hs,hc,ids1_ment hx⟩
    ·grind
   |none=>
    have hs':=(hb2 d hd).2 hs;rw[hs,hs']at hR;rw[hs'];simp only at hR ⊢;cases hq:s.r d with
    |none=>rw[hq]at hR;simp only at hR ⊢;exact z115 hb hb2 hr n l seen hl hR
    |some q=>
     rw[hq]at hR;cases rows with
     |true=>simp only at hR ⊢;exact z115 hb hb2 hr n l _ hl hR
     |false=>simp only at hR ⊢;exact z115 hb hb2 hr n l seen hl hR
theorem callEff_congr{k f mode:Nat}{xs:List TV}(hm:∀x∈xs,∀d,Ment d x→s.ment d)(hb:(!Nat.beq mode 0)=true→∀d,s.ment d→d∈handI s mode xs→s'.b d=s.b d)(hb2:(!Nat.beq mode 0)=true→∀d,s.ment d→(s'.b d=none ↔ s.b d=none))(hr:(!Nat.beq mode 0)=true→∀d,s.ment d→s'.r d=s.r d):z107 C s' k f mode xs=z107 C s k f mode xs:=by
 unfold z107;cases h0:Nat.beq mode 0 with
 |true=>simp[seqO]
 |false=>
  simp only[h0,Bool.not_false,forall_const,handI,Bool.false_eq_true,if_false]at hb hb2 hr;have hids:∀d∈xs.flatMap TV.ids2,s.ment d:=fun d hd=>by
   obtain⟨x,hx,hd⟩:=List.mem_flatMap.1 hd;exact hm x hx d (ids2_ment hd)
  have e1:=z115 (rows:=Nat.beq mode 2) hb hb2 hr 64 (xs.flatMap TV.ids2) [] hids (.inl fun _ h=>h);have e2:=(z116 (s:=s) (rows:=Nat.beq mode 2) 64 (xs.flatMap TV.ids2) [] (by simp) (by simp) hids).2;simp only[Bool.false_eq_true,if_false,e1];have e3:seqO (fun d=>(s'.mo d).bind (MO.ren (rhoIn (reach s (Nat.beq mode 2) 64 (xs.flatMap TV.ids2) [])))) (reach s (Nat.beq mode 2) 64 (xs.flatMap TV.ids2) [])=seqO (fun d=>(s.mo d).bind (MO.ren (rhoIn (reach s (Nat.beq mode 2) 64 (xs.flatMap TV.ids2) [])))) (reach s (Nat.beq mode 2) 64 (xs.flatMap TV.ids2) []):=
   z142 fun x hx=>by unfold FS.mo;rw[hb x (e2 x hx) hx,hr x (e2 x hx)]
  rw[e3]
theorem seq_ment{xs:List Arg}{ts:List TV}(h:seqO (fun x:Arg=>x.get s) xs=some ts):∀x∈ts,∀d,Ment d x→s.ment d:=by
 intro x hx d hd;obtain⟨l1,h1⟩:=z42 h;obtain⟨j,hj⟩:=List.getElem?_of_mem hx;have hjl:j<xs.length:=by grind
 obtain⟨y,hy1,hy2⟩:=h1 j xs[j] (gE hjl)
 grind [z29]
theorem callee_ment{t:TV}{f:Nat}{fa fb:List TV}(ht:t.callee=some (f,fa,fb)):∀x,(x∈fa∨x∈fb)→∀d,Ment d x→Ment d t:=by
 unfold TV.callee at ht;split at ht
 ·cases ht;exact fun x hx d hd=>hx.elim (fun hx=> .fn1 hx hd) (fun hx=> .fn2 hx hd)
 ·cases ht;intro x hx d hd;rcases hx with hx|hx
  ·obtain⟨p,_,rfl⟩:=List.mem_map.1 hx;cases hd
  ·obtain⟨p,_,rfl⟩:=List.mem_map.1 hx;cases hd
 ·grind
 ·cases ht
theorem callv_ment{x:Arg}{t:TV}{f:Nat}{fa fb vs:List TV}{xs:List Arg}(h1:(x.get s).bind TV.callee=some (f,fa,fb))(h2:seqO (fun x:Arg=>x.get s) xs=some vs):∀y∈fa++vs++fb,∀d,Ment d y→s.ment d:=by
 grind [Option.bind_eq_some_iff,z29,callee_ment,seq_ment]
theorem eff_congr{o:SOp}(h:∀k∈o.reads,s'.t k=s.t k)(hb:o.rb=true→∀d,s.ment d→(∀k,o.foot s=some k→d=k)→s'.b d=s.b d)(hb2:o.rb=true→∀d,s.ment d→(s'.b d=none ↔ s.b d=none))(hr:o.wr=true→∀d,s.ment d→s'.r d=s.r d)(hi:o.wi=true→∀d,s.ment d→s'.i d=s.i d):eff P C dst o s'=eff P C dst o s:=by
 cases o with
 |mov x|un _ x|cvi _ x|cvs x|b2s x|slen x|box x|fld _ _ _ x|fldA _ x|len x|ext x _|nchk x|rng x|mks _ _ x|mkI _ x|fnil _ x=>simp only[eff,z33 (x:=x) h]
 |pan x=>rfl
 |pick c a b=>
  simp only[SOp.reads,List.mem_append]at h;have e1:=z33 (x:=c) fun k hk=>h k (.inl (.inl hk));have e2:=z33 (x:=a) fun k hk=>h k (.inl (.inr hk));have e3:=z33 (x:=b) fun k hk=>h k (.inr hk);simp only[eff,e1]
  grind
 |bin _ _ x y|imm _ x y|sidx x y|idxA _ x y|appN _ _ _ x y|appB _ _ _ x y|appNS _ _ x y|lkp _ _ x y=>
  simp only[SOp.reads,List.mem_append]at h;have e1:=z33 (x:=x) fun k hk=>h k (.inl hk);have e2:=z33 (x:=y) fun k hk=>h k (.inr hk);simp only[eff,e1,e2]
 |bsl _ xs|bslO _ _ xs=>simp only[eff,getL_congr h]
 |mkf _ a b=>
  simp only[SOp.reads,List.mem_append]at h;simp only[eff,z136 (xs:=a) fun k hk=>h k (.inl hk),z136 (xs:=b) fun k hk=>h k (.inr hk)]
 |call f m xs=>
  simp only[eff,z136 (xs:=xs) h];cases hx:seqO (fun x:Arg=>x.get s) xs with
  |none=>simp
  |some vs=>simp only[Option.bind_some];exact callEff_congr (seq_ment hx) (fun h0 d hd hdI=>hb h0 d hd (fun k hk=>by rw[foot_call hx hk]at hdI;simpa using hdI)) hb2 hr
 |callv x m xs=>
  simp only[SOp.reads,List.mem_append]at h;have e1:=z33 (x:=x) fun k hk=>h k (.inl hk);simp only[eff,e1,z136 (xs:=xs) fun k hk=>h k (.inr hk)];split
  ·rename_i f fa fb vs h1 h2;exact callEff_congr (callv_ment (t:=.unk) h1 h2) (fun h0 d hd _=>hb h0 d hd (fun k hk=>by cases hk)) hb2 hr
  ·rfl
 |ssub x lo up|sub _ x lo up=>
  simp only[SOp.reads,List.mem_append]at h;have e1:=z33 (x:=x) fun k hk=>h k (.inl (.inl hk));simp only[eff,e1,bound_congr (x:=lo) fun k hk=>h k (.inl (.inr hk)),bound_congr (x:=up) fun k hk=>h k (.inr hk)]
 |new _=>rfl
 |build z ps=>
  have:partsT s' ps=partsT s ps:=z142 fun p hp=>by
   rw[z33 fun k hk=>h k (List.mem_flatMap.2 ⟨p.2.2,List.mem_map.2 ⟨p,hp,rfl⟩,hk⟩)]
  simp only[eff,this]
 |ld a n x=>
  have e1:=z33 (x:=x) h;simp only[eff,e1];split
  ·rename_i d off hx;rw[hb rfl d (z29 hx (.ptr _)) (fun k hk=>by simp only[SOp.foot,hx]at hk;exact Option.some.inj hk)]
  ·rfl
  ·rfl
 |st n x y=>
  simp only[SOp.reads,List.mem_append]at h;have e1:=z33 (x:=x) fun k hk=>h k (.inl hk);have e2:=z33 (x:=y) fun k hk=>h k (.inr hk);simp only[eff,e1,e2];split
  ·rename_i d off hx;rw[hb rfl d (z29 hx (.ptr _)) (fun k hk=>by simp only[SOp.foot,hx]at hk;exact Option.some.inj hk)]
  ·rfl
 |nxt x=>
  have e1:=z33 (x:=x) h;simp only[eff,e1];split
  ·rename_i d hx;rw[hi rfl d (z29 hx .it)]
  ·rfl
 |app e W b x y=>
  simp only[SOp.reads,List.mem_append]at h;have e1:=z33 (x:=x) fun k hk=>h k (.inl hk);have e2:=z33 (x:=y) fun k hk=>h k (.inr hk);simp only[eff,e1,e2];split
  ·rename_i d W' es es2 hx _;rw[hr rfl d (z29 hx (.own _ _))]
  ·rfl
 |appS e b x y=>
  simp only[SOp.reads,List.mem_append]at h;have e1:=z33 (x:=x) fun k hk=>h k (.inl hk);have e2:=z33 (x:=y) fun k hk=>h k (.inr hk);simp only[eff,e1,e2];split
  ·rename_i d W' es es2 hx _;rw[hr rfl d (z29 hx (.own _ _))]
  ·rfl
def ovB(dst:Option Nat):Upd→Nat→Option (List TV)
 | .box cs,d=>if dst=some d then some cs else none
 | .wr e cs,d=>if d=e then some cs else none
 | .mem us,d=>match us.lookup d with|some (.box cs)=>some cs|_=>none
 |_,_=>none
def ovR:Upd→Nat→Option (Nat×Nat×Nat)
 | .row e q,d=>if d=e then some q else none
 | .mem us,d=>match us.lookup d with|some (.row e W n)=>some (e,W,n)|_=>none
 |_,_=>none
def ovI:Upd→Nat→Option (ByteArray×Nat)
 | .it e q,d=>if d=e then some q else none
 |_,_=>none
theorem upd_b(u:Upd):(s.upd dst u).b d=match ovB dst u d with|some cs=>some cs|none=>s.b d:=by
 cases u with
 |box cs=>
  cases dst with
  |none=>rfl
  |some e=>simp only[FS.upd,FS.setB,setF,ovB,Option.some.injEq];by_cases h:d=e<;>simp[h,Ne.symm,eq_comm]
 |wr e cs=>simp only[FS.upd,FS.setB,setF,ovB];split<;>rfl
 |mem us=>
  simp only[FS.upd,memB,ovB]
  grind
 |_=>rfl
theorem upd_r(u:Upd):(s.upd dst u).r d=match ovR u d with|some q=>some q|none=>s.r d:=by
 cases u with
 |row e q=>simp only[FS.upd,FS.setR,setF,ovR];split<;>rfl
 |mem us=>
  simp only[FS.upd,memR,ovR]
  grind
 |box cs=>cases dst<;>rfl
 |_=>rfl
theorem upd_i(u:Upd):(s.upd dst u).i d=match ovI u d with|some q=>some q|none=>s.i d:=by
 cases u with
 |it e q=>simp only[FS.upd,FS.setI,setF,ovI];split<;>rfl
 |box cs=>cases dst<;>rfl
 |_=>rfl
theorem upd_t(u:Upd):(s.upd dst u).t=s.t:=by cases u<;>first|rfl|(cases dst<;>rfl)
theorem put_t{k:Nat}{x:TV}:(s.put dst x).t k=if dst=some k then some x else s.t k:=by
 cases dst with
 |none=>simp[FS.put]
 |some d=>
  simp only[FS.put,FS.setT,setF,Option.some.injEq]
  grind
theorem put_b{x:TV}:(s.put dst x).b=s.b:=by cases dst<;>rfl
theorem put_r{x:TV}:(s.put dst x).r=s.r:=by cases dst<;>rfl
theorem put_i{x:TV}:(s.put dst x).i=s.i:=by cases dst<;>rfl
structure Shape(s:FS)(dst:Option Nat)(o:SOp)(x:TV)(u:Upd):Prop where
 b:∀d cs,ovB dst u d=some cs→d∈o.news dst∨(o.wb=true∧s.ment d∧(∀k,o.foot s=some k→d=k)∧∃cs0,s.b d=some cs0)
 r:∀d q,ovR u d=some q→d∈o.news dst∨(o.wr=true∧s.ment d)
 i:∀d q,ovI u d=some q→d∈o.news dst∨(o.wi=true∧s.ment d)
 x:∀d,Ment d x→s.ment d∨d∈o.news dst
 m:∀d e cs c,ovB dst u e=some cs→c∈cs→Ment d c→s.ment d∨d∈o.news dst
theorem Shape.no{o:SOp}{x:TV}(h:∀d,Ment d x→s.ment d∨d∈o.news dst):Shape s dst o x .no:=
 ⟨fun _ _ h=>(by cases h),fun _ _ h=>(by cases h),fun _ _ h=>(by cases h),h,fun _ _ _ _ h=>(by cases h)⟩
theorem z45{α:Type}{o:SOp}{q:Option α}{f:α→TV}{x:TV}{u:Upd}(h:q.map (fun v=>(f v,Upd.no))=some (x,u))(hx:∀v,q=some v→∀d,Ment d (f v)→s.ment d∨d∈o.news dst):Shape s dst o x u:=by
 obtain⟨v,h1,h⟩:=gO h;cases h;exact .no (hx v h1)
theorem scal_shape{o:SOp}{m:Sem Value}{x:TV}{u:Upd}(h:scal P m=some (x,u)):Shape s dst o x u:=by
 obtain⟨v,rfl,rfl,_⟩:=scal_inv h;exact .no (fun d hd=>by cases hd)
theorem z180{x:Arg}{c:TV}{cs:List TV}(h:(x.get s).bind TV.cells=some cs)(hc:c∈cs)(hm:Ment d c):s.ment d:=by
 grind [Option.bind_eq_some_iff,z29,cells_ment]
theorem fillT_mem{c:TV}:∀{ps:List (Nat×Nat×List TV)} {cs cs':List TV},fillT cs ps=some cs'→c∈cs'→c∈cs∨∃p∈ps,c∈p.2.2
 |[],cs,cs',h,hc=>by simp[fillT]at h;subst h;exact .inl hc
 |(off,size,xs)::ps,cs,cs',h,hc=>by
  simp only[fillT]at h;split at h
  ·rcases fillT_mem h hc with h1|⟨p,hp,h1⟩
   ·rcases mem_splice h1 with h2|h2<;>simp_all
   ·grind
  ·cases h
theorem ren0_ment{ρ:Nat→Option Nat}{t y:TV}(h:t.ren0 ρ=some y)(hm:Ment d y):∃d',ρ d'=some d:=by
 cases t<;>simp only[TV.ren0]at h
 ·cases h;cases hm
 ·cases h;cases hm
 ·obtain⟨d',h1,rfl⟩:=gO h;cases hm;exact⟨_,h1⟩
 ·cases h;split at hm
  ·rename_i d' h1;cases hm;exact⟨_,h1⟩
  ·cases hm
 ·obtain⟨d',h1,rfl⟩:=gO h;cases hm;exact⟨_,h1⟩
 all_goals cases h
theorem z93{ρ:Nat→Option Nat}{f:TV→Option TV}(hf:∀t y,f t=some y→Ment d y→∃d',ρ d'=some d){xs ys:List TV}(h:seqO f xs=some ys){c:TV}(hc:c∈ys)(hm:Ment d c):∃d',ρ d'=some d:=by
 obtain⟨l1,h1⟩:=z42 h;obtain⟨j,hj⟩:=List.getElem?_of_mem hc;have hjl:j<xs.length:=by grind
 obtain⟨y,hy1,hy2⟩:=h1 j xs[j] (gE hjl)
 grind
theorem renF_ment{ρ:Nat→Option Nat}{t y:TV}(h:t.renF ρ=some y)(hm:Ment d y):∃d',ρ d'=some d:=by
 cases t with
 |fn f a b=>
  simp only[TV.renF]at h;split at h
  ·rename_i a' b' h1 h2;cases h;cases hm with
   |fn1 hc hm=>exact z93 (fun _ _=>ren0_ment) h1 hc hm
   |fn2 hc hm=>exact z93 (fun _ _=>ren0_ment) h2 hc hm
  ·cases h
 |_=>grind [only,TV.renF,ren0_ment]
theorem renE_ment{ρ:Nat→Option Nat}{t y:TV}(h:t.renE ρ=some y)(hm:Ment d y):∃d',ρ d'=some d:=by
 cases t with
 |agg cs=>
  simp only[TV.renE]at h;obtain⟨l,h1,rfl⟩:=gO h;cases hm with
  |agg hc hm=>exact z93 (fun _ _=>renF_ment) h1 hc hm
 |_=>grind [only,TV.renE,renF_ment]
theorem ren1_ment{ρ:Nat→Option Nat}{t y:TV}(h:t.ren1 ρ=some y)(hm:Ment d y):∃d',ρ d'=some d:=by
 cases t with
 |mp ks xs=>
  simp only[TV.ren1]at h;obtain⟨l,h1,rfl⟩:=gO h;cases hm with
  |mp hc hm=>exact z93 (fun _ _=>renE_ment) h1 hc hm
 |_=>grind [only,TV.ren1,renF_ment]
theorem ren2_ment{ρ:Nat→Option Nat}{t y:TV}(h:t.ren2 ρ=some y)(hm:Ment d y):∃d',ρ d'=some d:=by
 cases t with
 |agg cs=>
  simp only[TV.ren2]at h;obtain⟨l,h1,rfl⟩:=gO h;cases hm with
  |agg hc hm=>exact z93 (fun _ _=>ren1_ment) h1 hc hm
 |_=>grind [only,TV.ren2,ren1_ment]
theorem ren3_ment{ρ:Nat→Option Nat}{t y:TV}(h:t.ren3 ρ=some y)(hm:Ment d y):∃d',ρ d'=some d:=by
 cases t with
 |tuple cs=>
  simp only[TV.ren3]at h;obtain⟨l,h1,rfl⟩:=gO h;cases hm with
  |tuple hc hm=>exact z93 (fun _ _=>ren2_ment) h1 hc hm
 |_=>grind [only,TV.ren3,ren2_ment]
theorem rhoOut_inv{I:List Nat}{k d d':Nat}(h:rhoOut I k d'=some d):d∈I∨∃q,q<4∧d=newId k q:=by
 grind [rhoOut,List.mem_of_getElem?,Nat.blt_eq]
theorem call_shape{k f mode:Nat}{xs:List TV}{x:TV}{u:Upd}{o:SOp}(hm:∀x∈xs,∀d,Ment d x→s.ment d)(hk:k=dstId dst)(hnews:o.news dst=[newId k 0,newId k 1,newId k 2,newId k 3])(hwb:o.wb= !Nat.beq mode 0)(hwr:o.wr= !Nat.beq mode 0)(hft:∀k,o.foot s=some k→handI s mode xs=[k])(h:z107 C s k f mode xs=some (x,u)):Shape s dst o x u:=by
 obtain⟨xs',os,y,os',us,h1,h2,h3,h4,h5,h6,rfl⟩:=callEff_inv h;obtain⟨hI,hIm⟩:=handI_spec (s:=s) mode hm;have key:∀d d',rhoOut (handI s mode xs) k d'=some d→d∈o.news dst∨((!Nat.beq mode 0)=true∧s.ment d):=by
  grind [rhoOut_inv,Nat.beq,handI]
 have key':∀d d',rhoOut (handI s mode xs) k d'=some d→s.ment d∨d∈o.news dst:=fun d d' hd=>(key d d' hd).elim .inr (fun h=> .inl h.2);have hlk:∀i m,us.lookup i=some m→∃d' m0,rhoOut (handI s mode xs) k d'=some i∧MO.ren (rhoOut (handI s mode xs) k) m0=some m:=fun i m hi=>by
  grind [outs_spec]
 refine⟨fun d cs hd=> ?_,fun d q hd=> ?_,fun d q hd=>(by cases hd),fun d hd=> ?_,fun d e cs c he hc hd=> ?_⟩
 ·simp only[ovB]at hd;split at hd
  ·rename_i cs0 hl;obtain⟨q,m0,a0,a1,a2⟩:=(outs_spec h6).1 _ _ hl;rw[hwb];rcases key d _ a1 with hn|hn
   ·grind
   ·cases hI:(handI s mode xs)[q]? with
    |none=>
     left;rw[Nat.zero_add]at a1;unfold rhoOut at a1
     grind [Nat.ble_eq_true_of_le,Nat.add_sub_cancel_left,only,Nat.blt_eq,handI]
    |some i=>
     right;rw[Nat.zero_add]at a1;unfold rhoOut at a1;rw[if_pos (Nat.ble_eq_true_of_le (by omega)),Nat.add_sub_cancel_left,hI]at a1;cases a1;refine⟨hn.1,hn.2,fun k hk=> ?_,?_⟩
     ·grind
     ·obtain⟨g1,g2,g3⟩:=handed h2;obtain⟨_,_,_,o4⟩:=z113 h4;have hq:q<os.length:=by grind
      cases hm0:os[q]with
      |box c0=>
       obtain⟨i',c,b1,b2,_⟩:=g2 q c0 (by rw[←hm0];exact gE hq)
       grind
      |row e W n=>
       obtain⟨n',hn',_⟩:=o4 q e W n (by rw[←hm0];exact gE hq)
       grind [MO.ren]
  ·cases hd
 ·grind [only,ovR]
 ·grind [ren3_ment]
 ·simp only[ovB]at he;split at he
  ·rename_i hl;cases he;obtain⟨d',m0,_,a2⟩:=hlk _ _ hl;cases m0 with
   |row e W n=>simp[MO.ren]at a2
   |box c0=>
    simp only[MO.ren]at a2;obtain⟨l,a3,a4⟩:=gO a2;cases a4;obtain⟨d',a5⟩:=z93 (ρ:=rhoOut (handI s mode xs) k) (f:=TV.ren1 (rhoOut (handI s mode xs) k)) (fun _ _ h1 h2=>ren1_ment h1 h2) a3 hc hd
    grind
  ·cases he
theorem eff_shape{o:SOp}{x:TV}{u:Upd}(h:eff P C dst o s=some (x,u)):Shape s dst o x u:=by
 cases o with
 |mov y=>exact z45 (f:=fun c=>c) h (fun v hv d hd=> .inl (z29 hv hd))
 |pick c y z=>
  simp only[eff]at h;split at h
  ·exact z45 (f:=fun c=>c) h (fun v hv d hd=> .inl (z29 hv hd))
  ·cases h
 |bin op t a b=>
  simp only[eff]at h
  grind [scal_shape]
 |un op a=>
  simp only[eff]at h
  grind [scal_shape]
 |cvi k a=>exact z45 h (fun v hv d hd=>by cases hd)
 |mkI t a=>exact z45 h (fun v hv d hd=>by cases hd)
 |fnil t a=>exact z45 h (fun v hv d hd=>by cases hd)
 |pan a=>cases h
 |cvs a=>exact z45 h (fun v hv d hd=>by cases hd)
 |b2s a=>exact z45 h (fun v hv d hd=>by cases hd)
 |slen a=>exact z45 h (fun v hv d hd=>by cases hd)
 |len a=>exact z45 h (fun v hv d hd=>by cases hd)
 |imm mx a b=>
  simp only[eff]at h;split at h
  ·cases h;exact .no (fun d hd=>by cases hd)
  ·cases h
 |sidx a b=>
  simp only[eff]at h;split at h
  ·split at h
   ·exact z45 h (fun v hv d hd=>by cases hd)
   ·cases h
  ·cases h
 |ssub a b c=>
  simp only[eff]at h;split at h
  ·split at h
   ·split at h
    ·cases h;exact .no (fun d hd=>by cases hd)
    ·cases h
   ·cases h
  ·cases h
 |new z=>
  simp only[eff]at h;split at h
  ·cases h;refine⟨fun d cs hd=> ?_,fun _ _ h=>(by cases h),fun _ _ h=>(by cases h),fun d hd=> ?_,fun d e cs c he hc hd=> ?_⟩
   ·grind [only,ovB,SOp.news]
   ·cases hd;exact .inr (by simp[SOp.news])
   ·simp only[ovB]at he;split at he
    ·cases he;obtain⟨v,_,rfl⟩:=List.mem_map.1 hc;cases hd
    ·cases he
  ·cases h
 |box y=>
  simp only[eff]at h;split at h
  ·obtain⟨cs',h1,h2⟩:=gO h;cases h2;refine⟨fun d cs hd=> ?_,fun _ _ h=>(by cases h),fun _ _ h=>(by cases h),fun d hd=> ?_,fun d e cs c he hc hd=> ?_⟩
   ·grind [only,ovB,SOp.news]
   ·cases hd;exact .inr (by simp[SOp.news])
   ·grind [only,ovB,z180]
  ·cases h
 |mks bytes z n=>
  simp only[eff]at h;split at h
  ·split at h
   ·cases h;refine⟨fun d cs hd=> ?_,fun _ _ h=>(by cases h),fun _ _ h=>(by cases h),fun d hd=> ?_,fun d e cs c he hc hd=> ?_⟩
    ·grind [only,ovB,SOp.news]
    ·cases hd;exact .inr (by simp[SOp.news])
    ·simp only[ovB]at he;split at he
     ·cases he;obtain⟨l,h1,h2⟩:=List.mem_flatten.1 hc;rw[List.eq_of_mem_replicate h1]at h2;obtain⟨v,_,rfl⟩:=List.mem_map.1 h2;cases hd
     ·cases he
   ·cases h
  ·cases h
 |build z ps=>
  simp only[eff]at h;obtain⟨qs,h1,h⟩:=gB h;refine z45 h (fun v hv d hm=> ?_);cases hm with
  |agg hc hm=>
  rcases fillT_mem hv hc with h3|⟨p,hp,h3⟩
  ·obtain⟨w,_,rfl⟩:=List.mem_map.1 h3;cases hm
  ·obtain⟨k,hk⟩:=List.getElem?_of_mem hp;obtain⟨l1,hs1⟩:=z42 h1;have hkl:k<ps.length:=by grind
   obtain⟨y,hy1,hy2⟩:=hs1 k ps[k] (gE hkl)
   grind [Option.map_eq_some_iff,z180]
 |lkp text z y i=>
  simp only[eff]at h;split at h
  ·rename_i ks xs k hy _;split at h
   ·exact z45 (f:=fun t=>t) h (fun v hv d hm=> .inl (z29 hy (.mp (gM hv) hm)))
   ·cases h;refine .no (fun d hm=> ?_);unfold zeroT at hm;split at hm
    ·cases hm with
     |agg hc hm=>obtain⟨v,_,rfl⟩:=List.mem_map.1 hc;cases hm
    ·cases hm
   ·cases h
  ·cases h
 |bslO e W xs=>
  simp only[eff]at h;split at h
  ·split at h
   ·cases h;refine⟨fun _ _ h=>(by cases h),fun d q hd=> ?_,fun _ _ h=>(by cases h),fun d hm=> ?_,fun _ _ _ _ h=>(by cases h)⟩
    ·grind [only,ovR,SOp.news]
    ·cases hm;exact .inr (by simp[SOp.news])
   ·cases h
  ·cases h
 |bsl W xs=>
  simp only[eff]at h;obtain⟨_,_,h⟩:=gB h;split at h
  ·cases h;exact .no (fun d hd=>by cases hd)
  ·cases h
 |fld a off size y=>
  simp only[eff]at h;split at h
  ·rename_i cs hy;split at h
   ·split at h
    ·cases h;refine .no (fun d hm=> ?_);cases hm with
     |agg hc hm=>exact .inl (z29 hy (.agg (List.mem_of_mem_drop (List.mem_of_mem_take hc)) hm))
    ·cases h
   ·exact z45 (f:=fun c=>c) h (fun v hv d hm=> .inl (z29 hy (.agg (gM hv) hm)))
  ·cases h
 |fldA off y=>
  simp only[eff]at h;split at h
  ·rename_i d' o' hy;cases h;exact .no (fun d hm=>by cases hm;exact .inl (z29 hy (.ptr _)))
  ·cases h;exact .no (fun d hm=>by cases hm)
  ·cases h
 |ld a size y=>
  simp only[eff]at h;split at h
  ·rename_i d' o' hy;obtain⟨cs,hb,h⟩:=gB h;split at h
   ·split at h
    ·cases h;refine .no (fun d hm=> ?_);cases hm with
     |agg hc hm=>exact .inl (.inr ⟨d',cs,_,hb,List.mem_of_mem_drop (List.mem_of_mem_take hc),hm⟩)
    ·cases h
   ·exact z45 (f:=fun c=>c) h (fun v hv d hm=> .inl (.inr ⟨d',cs,_,hb,gM hv,hm⟩))
  ·split at h
   ·split at h
    ·cases h;refine .no (fun d hm=> ?_);cases hm with
     |agg hc hm=>
      obtain⟨p,_,rfl⟩:=List.mem_map.1 hc;cases hm
    ·cases h
   ·exact z45 h (fun v hv d hm=>by cases hm)
  ·cases h
 |st n y z=>
  simp only[eff]at h;split at h
  ·rename_i d' o' hy;obtain⟨cs,hb,h⟩:=gB h;obtain⟨xs,hxs,h⟩:=gB h;split at h
   ·cases h;refine⟨fun d cs' hd=> ?_,fun _ _ h=>(by cases h),fun _ _ h=>(by cases h),fun d hd=>(by cases hd),fun d e cs' c he hc hd=> ?_⟩
    ·simp only[ovB]at hd;split at hd
     ·rename_i e;subst e;exact .inr ⟨rfl,z29 hy (.ptr _),fun k hk=>by simp only[SOp.foot,hy]at hk;exact Option.some.inj hk,_,hb⟩
     ·cases hd
    ·simp only[ovB]at he;split at he
     ·cases he;rcases mem_splice hc with h1|h1
      ·exact .inl (.inr ⟨_,cs,c,hb,h1,hd⟩)
      ·grind [z180]
     ·cases he
   ·cases h
  ·cases h
 |idxA W y i=>
  simp only[eff]at h;split at h
  ·rename_i hy _;split at h
   ·cases h;exact .no (fun d hm=>by cases hm;exact .inl (z29 hy (.bs _ _ _)))
   ·cases h
  ·split at h
   ·exact z45 h (fun v hv d hm=>by cases hm)
   ·cases h
  ·cases h
 |sub W y lo hi=>
  simp only[eff]at h;split at h
  ·rename_i hy;split at h
   ·split at h
    ·cases h;refine .no (fun d hm=> ?_);split at hm<;>cases hm
     exact .inl (z29 hy (.bs _ _ _))
    ·cases h
   ·cases h
  ·split at h
   ·split at h
    ·split at h
     ·cases h;exact .no (fun d hm=>by cases hm)
     ·cases h
    ·cases h
   ·cases h
  ·cases h
 |app e W b y z=>
  simp only[eff]at h;split at h
  ·rename_i d' W' es es2 hy _;split at h
   ·cases h;refine⟨fun _ _ h=>(by cases h),fun d q hd=> ?_,fun _ _ h=>(by cases h),fun d hm=> ?_,fun _ _ _ _ h=>(by cases h)⟩
    ·simp only[ovR]at hd;split at hd
     ·rename_i e;subst e;exact .inr ⟨rfl,z29 hy (.own _ _)⟩
     ·cases hd
    ·cases hm;exact .inl (z29 hy (.own _ _))
   ·cases h
  ·cases h
 |appS e b y z=>
  simp only[eff]at h;split at h
  ·rename_i d' W' es es2 hy _;split at h
   ·cases h;refine⟨fun _ _ h=>(by cases h),fun d q hd=> ?_,fun _ _ h=>(by cases h),fun d hm=> ?_,fun _ _ _ _ h=>(by cases h)⟩
    ·simp only[ovR]at hd;split at hd
     ·rename_i e;subst e;exact .inr ⟨rfl,z29 hy (.own _ _)⟩
     ·cases hd
    ·cases hm;exact .inl (z29 hy (.own _ _))
   ·cases h
  ·cases h
 |appN e W b y z=>
  simp only[eff]at h;split at h
  ·split at h
   ·cases h;refine⟨fun _ _ h=>(by cases h),fun d q hd=> ?_,fun _ _ h=>(by cases h),fun d hm=> ?_,fun _ _ _ _ h=>(by cases h)⟩
    ·grind [only,ovR,SOp.news]
    ·cases hm;exact .inr (by simp[SOp.news])
   ·cases h
  ·cases h
 |appB e W b y z=>
  simp only[eff]at h;split at h
  ·split at h
   ·split at h
    ·cases h;exact .no (fun d hd=>by cases hd)
    ·cases h;refine⟨fun d cs hd=> ?_,fun _ _ h=>(by cases h),fun _ _ h=>(by cases h),fun d hd=> ?_,fun d e cs c he hc hd=> ?_⟩
     ·grind [only,ovB,SOp.news]
     ·cases hd;exact .inr (by simp[SOp.news])
     ·simp only[ovB]at he;split at he
      ·cases he;obtain⟨v,_,rfl⟩:=List.mem_map.1 hc;cases hd
      ·cases he
   ·cases h
  ·cases h
 |appNS e b y z=>
  simp only[eff]at h;split at h
  ·split at h
   ·cases h;refine⟨fun _ _ h=>(by cases h),fun d q hd=> ?_,fun _ _ h=>(by cases h),fun d hm=> ?_,fun _ _ _ _ h=>(by cases h)⟩
    ·grind [only,ovR,SOp.news]
    ·cases hm;exact .inr (by simp[SOp.news])
   ·cases h
  ·cases h
 |call f m xs=>
  simp only[eff]at h;obtain⟨vs,hv,h⟩:=gB h;exact call_shape (seq_ment hv) rfl rfl rfl rfl (fun k hk=>foot_call hv hk) h
 |callv y m xs=>
  simp only[eff]at h;split at h
  ·rename_i h1 h2;exact call_shape (callv_ment (t:=.unk) h1 h2) rfl rfl rfl rfl (fun k hk=>by cases hk) h
  ·cases h
 |ext y i=>
  simp only[eff]at h;split at h
  ·rename_i ts hy;exact z45 (f:=fun c=>c) h (fun v hv d hm=> .inl (z29 hy (.tuple (gM hv) hm)))
  ·cases h
 |nchk y=>
  simp only[eff]at h;split at h
  ·rename_i hy;cases h;exact .no (fun d hm=> .inl (z29 hy hm))
  ·rename_i hy;cases h;exact .no (fun d hm=> .inl (z29 hy hm))
  ·cases h
 |mkf f a b=>
  simp only[eff]at h;split at h
  ·rename_i h1 h2;cases h;refine .no (fun d hm=> ?_);cases hm<;>grind [seq_ment]
  ·cases h
 |rng y=>
  simp only[eff]at h;split at h
  ·cases h;refine⟨fun _ _ h=>(by cases h),fun _ _ h=>(by cases h),fun d q hd=> ?_,fun d hm=> ?_,fun _ _ _ _ h=>(by cases h)⟩
   ·grind [only,ovI,SOp.news]
   ·cases hm;exact .inr (by simp[SOp.news])
  ·cases h
 |nxt y=>
  simp only[eff]at h;split at h
  ·rename_i hy;split at h
   ·split at h
    ·cases h;refine⟨fun _ _ h=>(by cases h),fun _ _ h=>(by cases h),fun d q hd=> ?_,fun d hm=> ?_,fun _ _ _ _ h=>(by cases h)⟩
     ·simp only[ovI]at hd;split at hd
      ·rename_i e;subst e;exact .inr ⟨rfl,z29 hy .it⟩
      ·cases hd
     ·cases hm with
      |tuple hc hm=>simp at hc;rcases hc with rfl|rfl|rfl<;>cases hm
    ·cases h;refine .no (fun d hm=> ?_);cases hm with
     |tuple hc hm=>simp at hc;subst hc;cases hm
   ·cases h
  ·cases h
end
end
section
section
variable{P:Program}{C C':Oracle}{s s':FS}
def isK:Option Nat→Nat→Bool
 |some k,d=>Nat.beq k d
 |none,_=>false
theorem isK_eq{x:Option Nat}{d:Nat}(h:isK x d=true):x=some d:=by
 cases x with
 |none=>cases h
 |some k=>rw[Nat.eq_of_beq_eq_true h]
def footOk(o:SOper)(s:FS):Bool:=match o.fp with
 |none=>true
 |some d=>isK (o.op.foot s) d
def effF(P:Program)(C:Oracle)(o:SOper)(s:FS):Option (TV×Upd):=match footOk o s with|true=>eff P C o.dst o.op s|false=>none
theorem effF_eff{o:SOper}{e:TV×Upd}(h:effF P C o s=some e):eff P C o.dst o.op s=some e∧∀d,o.fp=some d→o.op.foot s=some d:=by
 grind [effF,footOk,isK_eq]
def effG(P:Program)(C:Oracle)(o:SOper)(s:FS):Option (TV×Upd):=
 match o.guard with
 |some (g,want)=>match s.t g with
  |some (.pv (.v (.bool b)))=>if b==want then effF P C o s else some (.pv (.v undef),.no)
  |some (.pv (.v _))=>some (.pv (.v undef),.no)
  |_=>none
 |none=>effF P C o s
def FS.after(s:FS)(o:SOper)(e:TV×Upd):FS:=(s.upd o.dst e.2).put o.dst e.1
def step(P:Program)(C:Oracle)(o:SOper)(s:FS):Option FS:=(effG P C o s).map (s.after o)
def SOper.news(o:SOper):List Nat:=o.op.news o.dst
def unlike:Option Nat→Option Nat→Bool
 |some a,some b=> !Nat.beq a b
 |_,_=>false
def noClash(o p:SOper):Bool:=(unlike o.fp p.fp||(!(o.op.wb&&p.op.rb)&& !(p.op.wb&&o.op.rb)))&& !(o.op.wr&&p.op.wr)&& !(o.op.wi&&p.op.wi)
def apart(o p:SOper):Bool:=
 (match o.dst with|some d=> !p.reads.contains d&&p.dst !=some d|none=>true)&&(match p.dst with|some d=> !o.reads.contains d&&o.dst !=some d|none=>true)&&noClash o p
theorem apart_symm{o p:SOper}(h:apart o p=true):apart p o=true:=by
 unfold apart noClash at*;simp only[Bool.and_eq_true,Bool.or_eq_true]at h ⊢;obtain⟨⟨h1,h2⟩,⟨h3,h5⟩,h6⟩:=h;refine⟨⟨h2,h1⟩,⟨?_,?_⟩,?_⟩
 ·rcases h3 with h3|⟨h3,h4⟩
  ·left;cases ho:o.fp with
   |none=>rw[ho]at h3;cases h3
   |some a=>
    cases hp:p.fp<;>grind [only,unlike,Bool.not_eq_true',Nat.beq,Nat.eq_of_beq_eq_true,Nat.beq_refl]
  ·grind
 ·grind
 ·grind
theorem unlike_spec{a b:Option Nat}(h:unlike a b=true):∃x y,a=some x∧b=some y∧x≠y:=by
 cases a with
 |none=>cases h
 |some x=>
  cases b<;>grind [only,unlike,Bool.not_eq_true',Nat.beq_refl]
def FreshO(o:SOper)(s:FS):Prop:=∀d∈o.news,Fresh s d
theorem effG_cases{o:SOper}{e:TV×Upd}(h:effG P C o s=some e):e=(.pv (.v undef),.no)∨effF P C o s=some e:=by
 grind [effG]
theorem z133{o:SOper}{e:TV×Upd}(h:effG P C o s=some e):Shape s o.dst o.op e.1 e.2:=by
 rcases effG_cases h with rfl|h
 ·exact .no (fun d hd=>by cases hd)
 ·exact eff_shape (x:=e.1) (u:=e.2) (effF_eff h).1
theorem foot_at(I:List Nat)(k:Nat):isK (only I) k=true ↔ I=[k]:=by
 match I with
 |[]=>simp[only,isK]
 |[d]=>exact⟨fun h=>by rw[Nat.eq_of_beq_eq_true h],fun h=>by cases h;exact Nat.beq_refl k⟩
 |_::_::_=>simp[only,isK]
theorem footOk_congr{o:SOper}(h:∀k∈o.op.reads,s'.t k=s.t k)(hb:o.op.rb=true→∀d,s.ment d→(∀k,o.fp=some k→d=k)→s'.b d=s.b d)(hb2:o.op.rb=true→∀d,s.ment d→(s'.b d=none ↔ s.b d=none))(hr:o.op.wr=true→∀d,s.ment d→s'.r d=s.r d):footOk o s'=footOk o s:=by
 unfold footOk;cases hfp:o.fp with
 |none=>rfl
 |some k=>
  cases hop:o.op with
  |ld a n x=>rw[hop]at h;simp only[SOp.foot,z33 (x:=x) h]
  |st n x y=>grind [only,SOp.reads,SOp.foot,z33]
  |call f m xs=>
   rw[hop]at h hb hb2 hr;simp only[SOp.foot,z136 (xs:=xs) h];cases hx:seqO (fun x:Arg=>x.get s) xs with
   |none=>rfl
   |some args=>
    simp only;rw[Bool.eq_iff_iff,foot_at,foot_at];cases h0:Nat.beq m 0 with
    |true=>simp[handI,h0]
    |false=>
     have hrb:(SOp.call f m xs).rb=true:=by simp[SOp.rb,h0]
     have hwr:(SOp.call f m xs).wr=true:=by simp[SOp.wr,h0]
     have hids:∀d∈args.flatMap TV.ids2,s.ment d:=fun d hd=>by
      grind [seq_ment,ids2_ment]
     have key:((∀d∈handI s m args,d∈[k])∨(∀d∈handI s' m args,d∈[k]))→handI s' m args=handI s m args:=by
      intro hk;simp only[handI,h0,Bool.false_eq_true,if_false]at hk ⊢;exact z115 (R:=[k]) (fun d hd hdk=>hb hrb d hd (fun k' hk'=>by rw[hfp]at hk';cases hk';simpa using hdk)) (hb2 hrb) (hr hwr) 64 _ [] hids hk
     grind
  |_=>rfl
theorem effG_congr{o:SOper}(h:∀k∈o.reads,s'.t k=s.t k)(hb:o.op.rb=true→∀d,s.ment d→(∀k,o.fp=some k→d=k)→s'.b d=s.b d)(hb2:o.op.rb=true→∀d,s.ment d→(s'.b d=none ↔ s.b d=none))(hr:o.op.wr=true→∀d,s.ment d→s'.r d=s.r d)(hi:o.op.wi=true→∀d,s.ment d→s'.i d=s.i d):effG P C o s'=effG P C o s:=by
 have hrd:∀k∈o.op.reads,s'.t k=s.t k:=fun k hk=>h k (by simp[SOper.reads,hk]);have hft:footOk o s'=footOk o s:=footOk_congr hrd hb hb2 hr;have he:effF P C o s'=effF P C o s:=by
  grind [effF,footOk,eff_congr,isK_eq]
 grind [effG,only,SOper.reads]
theorem effG_apart{o p:SOper}(hap:apart o p=true)(hf:FreshO o s){e:TV×Upd}(he:effG P C o s=some e):effG P C' p (s.after o e)=effG P C' p s:=by
 unfold apart noClash at hap;simp only[Bool.and_eq_true,Bool.not_eq_true',Bool.or_eq_true]at hap;obtain⟨⟨h1,h2⟩,⟨h34,h5⟩,h6⟩:=hap;have hS:=z133 he;have hfo:∀d cs,ovB o.dst e.2 d=some cs→d∈o.op.news o.dst∨(o.op.wb=true∧(∀k,o.fp=some k→d=k)∧∃c0,s.b d=some c0):=by
  intro d cs hd;rcases effG_cases he with rfl|he'
  ·cases hd
  ·rcases hS.b d cs hd with h|⟨h,_,h',h''⟩
   ·grind
   ·exact .inr ⟨h,fun k hk=>h' k ((effF_eff he').2 k hk),h''⟩
 have hne:∀d,s.ment d→d∉o.op.news o.dst:=fun d hd hn=>(hf d hn).1 hd;refine effG_congr (fun k hk=> ?_) (fun hb d hd hdk=> ?_) (fun hb d hd=> ?_) (fun hr d hd=> ?_) (fun hi d hd=> ?_)
 ·grind [FS.after,put_t,upd_t]
 ·unfold FS.after;rw[put_b,upd_b]
  grind [ovB,unlike_spec]
 ·unfold FS.after;rw[put_b,upd_b]
  grind
 ·unfold FS.after;rw[put_r,upd_r];cases ho:ovR e.2 d with
  |none=>rfl
  |some cs=>
   rcases hS.r d cs ho with h|⟨h,_⟩<;>grind
 ·unfold FS.after;rw[put_i,upd_i];cases ho:ovI e.2 d with
  |none=>rfl
  |some cs=>
   rcases hS.i d cs ho with h|⟨h,_⟩<;>grind
theorem FS.ext'{a b:FS}(h1:∀k,a.t k=b.t k)(h2:∀k,a.b k=b.b k)(h3:∀k,a.r k=b.r k)(h4:∀k,a.i k=b.i k):a=b:=by
 cases a;cases b;simp only[FS.mk.injEq]
 grind
def mkOk(a b:SOper):Bool:=a.news.all fun d=> !b.news.contains d
theorem mkOk_spec{a b:SOper}(h:mkOk a b=true){d:Nat}(h1:d∈a.news)(h2:d∈b.news):False:=by
 have:=List.all_eq_true.1 h d h1
 grind
theorem after_comm{o p:SOper}(hap:apart o p=true)(hmk:mkOk o p=true)(hfo:FreshO o s)(hfp:FreshO p s){e f:TV×Upd}(he:effG P C o s=some e)(hf:effG P C' p s=some f):(s.after o e).after p f=(s.after p f).after o e:=by
 unfold apart noClash at hap;simp only[Bool.and_eq_true,Bool.not_eq_true',Bool.or_eq_true]at hap;obtain⟨⟨h1,h2⟩,⟨h34,h5⟩,h6⟩:=hap;have hdd:∀k,o.dst=some k→p.dst≠some k:=by
  grind
 have hSo:=z133 he;have hSp:=z133 hf;have clash:∀{d:Nat} {A Bo:Bool},(d∈o.op.news o.dst∨(A=true∧s.ment d))→(d∈p.op.news p.dst∨(Bo=true∧s.ment d))→(A&&Bo)=false→False:=by
  intro d A Bo q1 q2 hq;rcases q1 with q1|⟨q1,q1'⟩<;>rcases q2 with q2|⟨q2,q2'⟩
  ·exact mkOk_spec hmk q1 q2
  ·exact(hfo d q1).1 q2'
  ·exact(hfp d q2).1 q1'
  ·grind
 refine FS.ext' (fun k=> ?_) (fun k=> ?_) (fun k=> ?_) (fun k=> ?_)
 ·unfold FS.after;simp only[put_t,upd_t]
  grind
 ·unfold FS.after;simp only[put_b,upd_b];cases q1:ovB o.dst e.2 k with
  |none=>rfl
  |some x=>
   cases q2:ovB p.dst f.2 k with
   |none=>rfl
   |some y=>
    exfalso;rcases h34 with hu|⟨h3,_⟩
    ·obtain⟨x',y',e1,e2,e3⟩:=unlike_spec hu;have k1:∀(o:SOper) (C:Oracle) (e:TV×Upd),effG P C o s=some e→∀cs,ovB o.dst e.2 k=some cs→∀z,o.fp=some z→k∈o.op.news o.dst∨(k=z∧s.ment k):=by
      intro o C e he cs hd z hz;rcases effG_cases he with rfl|he'
      ·cases hd
      ·rcases(z133 he).b k cs hd with h|⟨_,h0,h',_⟩
       ·grind
       ·exact .inr ⟨h' z ((effF_eff he').2 z hz),h0⟩
     rcases k1 o C e he _ q1 x' e1 with a1|a1
     ·rcases k1 p C' f hf _ q2 y' e2 with a2|a2
      ·simp_all
      ·exact(hfo k a1).1 a2.2
     ·rcases k1 p C' f hf _ q2 y' e2 with a2|a2
      ·exact(hfp k a2).1 a1.2
      ·omega
    ·refine clash ((hSo.b k _ q1).imp id (fun h=>⟨h.1,h.2.1⟩)) ((hSp.b k _ q2).imp id (fun h=>⟨h.1,h.2.1⟩)) ?_
     grind [wb_rb]
 ·unfold FS.after;simp only[put_r,upd_r];cases q1:ovR e.2 k with
  |none=>rfl
  |some x=>
   cases q2:ovR f.2 k with
   |none=>rfl
   |some y=>exact(clash (hSo.r k _ q1) (hSp.r k _ q2) h5).elim
 ·unfold FS.after;simp only[put_i,upd_i];cases q1:ovI e.2 k with
  |none=>rfl
  |some x=>
   cases q2:ovI f.2 k with
   |none=>rfl
   |some y=>exact(clash (hSo.i k _ q1) (hSp.i k _ q2) h6).elim
theorem step_comm{o p:SOper}(hap:apart o p=true)(hmk:mkOk o p=true)(hfo:FreshO o s)(hfp:FreshO p s){s1 s2:FS}(h1:step P C o s=some s1)(h2:step P C' p s1=some s2):∃s1',step P C' p s=some s1'∧step P C o s1'=some s2:=by
 grind [Option.map_eq_some_iff,effG_apart,step,apart_symm,after_comm]
theorem fresh_after{o p:SOper}(hf:FreshO p s)(hmk:mkOk o p=true){s1:FS}(h:step P C o s=some s1):FreshO p s1:=by
 obtain⟨e,he,rfl⟩:=gO h;have hS:=z133 he;intro d hd;obtain⟨f1,f2,f3,f4⟩:=hf d hd;have hno:d∉o.op.news o.dst:=fun h=>mkOk_spec hmk h hd;have hm:∀{A:Prop},(s.ment d∨d∈o.op.news o.dst)→A:=fun h=>h.elim (fun h=>absurd h f1) (fun h=>absurd h hno);refine⟨?_,?_,?_,?_⟩
 ·rintro(⟨k,y,hk,hy⟩|⟨k,cs,c,hk,hc,hy⟩)
  ·unfold FS.after at hk;rw[put_t,upd_t]at hk;split at hk
   ·cases hk;exact hm (hS.x d hy)
   ·exact f1 (.inl ⟨k,y,hk,hy⟩)
  ·unfold FS.after at hk;rw[put_b,upd_b]at hk;cases ho:ovB o.dst e.2 k with
   |none=>rw[ho]at hk;exact f1 (.inr ⟨k,cs,c,hk,hc,hy⟩)
   |some x=>rw[ho]at hk;cases hk;exact hm (hS.m d k cs c ho hc hy)
 ·unfold FS.after;rw[put_b,upd_b];cases ho:ovB o.dst e.2 d with
  |none=>exact f2
  |some x=>exact hm ((hS.b d x ho).elim .inr (fun h=> .inl h.2.1))
 ·unfold FS.after;rw[put_r,upd_r];cases ho:ovR e.2 d with
  |none=>exact f3
  |some x=>exact hm ((hS.r d x ho).elim .inr (fun h=> .inl h.2))
 ·unfold FS.after;rw[put_i,upd_i];cases ho:ovI e.2 d with
  |none=>exact f4
  |some x=>exact hm ((hS.i d x ho).elim .inr (fun h=> .inl h.2))
end
def dstOk(N:Nat):Option Nat→Bool
 |some d=>Nat.blt d N
 |none=>true
def z165(ops:Array Oper):Option (Nat×Bool)→Option (Option (Nat×Bool))
 |none=>some none
 |some (j,want)=>match(ops[j]?).bind (·.dst)with
  |some d=>some (some (d,want))
  |none=>none
def z87(P:Program)(N:Nat)(H:Option Nat→Nat)(fp:Option Nat)(ops:Array Oper)(o:Oper):Option SOper:=
 match z165 ops o.guard,z24 P o (H o.dst)with
 |some g,some op=>if dstOk N o.dst then some ⟨o.dst,g,fp,op⟩ else none
 |_,_=>none
def direct(ops:Array Oper)(a i:Nat):Bool:=match ops[i]? with
 |some o=>o.after.any fun e=>Region.binds .any e&&Nat.beq e.on a
 |none=>false
def ahead(ops:Array Oper):Nat→Nat→Nat→Bool
 |0,a,i=>direct ops a i
 |f+1,a,i=>direct ops a i||(match ops[i]? with
  |some o=>o.after.any fun e=>Region.binds .any e&&ahead ops f a e.on
  |none=>false)
def pairOk(ops:Array Oper)(draw:Bool)(sops:List SOper)(i j:Nat):Bool:=
 match sops[i]?,sops[j]? with
 |some a,some b=>mkOk a b&&(!draw||apart a b||ahead ops 4 i j)
 |_,_=>false
def z117(ops:Array Oper)(draw:Bool)(sops:List SOper):Bool:=
 ((List.range sops.length).all fun j=>(List.range j).all fun i=>pairOk ops draw sops i j)&&
 (!draw||(List.range sops.length).all fun i=>match ops[i]? with|some o=>o.after.all fun e=> !Region.binds .any e||Nat.blt e.on i|none=>true)
def z154(P:Program)(N:Nat)(H:Option Nat→Nat)(fps:Nat→Option Nat)(ops:Array Oper):Nat→List Oper→Option (List SOper)
 |_,[]=>some []
 |j,o::l=>match z87 P N H (fps j) ops o,z154 P N H fps ops (j+1) l with
  |some x,some r=>some (x::r)
  |_,_=>none
theorem z81{P:Program}{N:Nat}{H:Option Nat→Nat}{fps:Nat→Option Nat}{ops:Array Oper}:∀{l:List Oper} {j:Nat} {sops:List SOper},z154 P N H fps ops j l=some sops→l.length=sops.length∧∀(i:Nat) o,l[i]?=some o→∃so,sops[i]?=some so∧z87 P N H (fps (j+i)) ops o=some so
 |[],j,sops,h=>by simp[z154]at h;subst h;simp
 |o::l,j,sops,h=>by
  simp only[z154]at h;split at h
  ·rename_i x r h1 h2;cases h;obtain⟨a1,a2⟩:=z81 h2
   grind
  ·cases h
def z44(P:Program)(N:Nat)(H:Option Nat→Nat)(fps:Nat→Option Nat)(ops:Array Oper)(draw:Bool):Option (List SOper):=
 match z154 P N H fps ops 0 ops.toList with
 |some sops=>if z117 ops draw sops then some sops else none
 |none=>none
section
variable{P:Program}{H:Option Nat→Nat}{ops:Array Oper}{B:Base}{C:Oracle}{sops:List SOper}{g:Glob}
def SoundC(P:Program)(g:Glob)(C:Oracle):Prop:=∀f xs os y os',C f xs os=some (y,os')→SCalls P g f xs os y os'
def Stp(P:Program)(g:Glob)(o:SOper)(s s':FS):Prop:=∃C,SoundC P g C∧step P C o s=some s'
theorem sim_step(hm0:B.m≤1000)(hN:B.N≤1000)(hG:g.G B.w0)(hX:∀d b,B.X d b→g.n≤b)(hC:SoundC P g C){s s':FS}{a:Act}{w:World}{E:Env}(h:Sim B s a w E){i:Nat}{o:Oper}{so:SOper}{fp:Option Nat}(hi:ops[i]?=some o)(ht:z87 P B.N H fp ops o=some so)(hf:FreshO so s)(hs:step P C so s=some s')
  {K:Act→World→Prop} {Q:Exit→Act→World→Prop} (hK:∀a' w' E',Sim B s' a' w' E'→K a' w'):wpOp P ops Q i K a w:=by
 unfold z87 at ht;split at ht<;>try(cases ht;done)
 rename_i gd op hg hop;split at ht<;>try(cases ht;done)
 rename_i hd;cases ht;have hdst:∀k,o.dst=some k→k<B.N:=by
  grind [only,dstOk,Nat.blt_eq]
 obtain⟨e,he,rfl⟩:=gO hs;have hdo:effF P C ⟨o.dst,gd,fp,op⟩ s=some e→o.wp P a w K Q:=fun he'=>
  sim_op (C:=C) h hm0 hN hG hX hop hdst hf hC (x:=e.1) (u:=e.2) (effF_eff he').1 (fun v w' E' hS=>hK _ _ _ hS)
 unfold wpOp;simp only[hi];unfold effG at he;cases hgo:o.guard with
 |none=>
  rw[hgo]at hg;simp only[z165,Option.some.injEq]at hg;subst hg;simp only at he;rw[if_pos (by simp[Region.wanted,hgo])]
  grind
 |some jw=>
  obtain⟨j,want⟩:=jw;rw[hgo]at hg;simp only[z165]at hg;split at hg<;>try(cases hg;done)
  rename_i d hjd;cases hg;simp only at he;have hskip:∀v,a.tmps[d]?=some v→(∀b,v=.bool b→(b==want)=false)→e=(.pv (.v undef),.no)→(if Region.wanted o (yielded ops a.tmps)=true then o.wp P a w K Q∨(o.asks P a w∧LetsOut Q)else K (a.put o.dst undef) w):=by
   intro v hv hb he';rw[if_neg]
   ·rw[he']at hK;exact hK _ _ E (h.put hdst (.pv (.v undef)))
   ·simp only[Region.wanted,hgo,yielded,hjd,Option.bind_some,hv]
    grind
  have hval:∀v,s.t d=some (.pv (.v v))→a.tmps[d]?=some v:=by
   intro v hv;obtain⟨h1,h2⟩:=h.tmp d _ hv;have h3:=val_rel (y:=v) h2 rfl;have hlt:d<a.tmps.size:=by rw[h.size];exact h1
   simp_all
  split at he
  ·rename_i b hb;have hv:=hval _ hb;split at he
   ·rename_i hbw;rw[if_pos]
    ·grind
    ·simp only[Region.wanted,hgo,yielded,hjd,Option.bind_some,hv]
     grind
   ·grind
  ·grind
  ·cases he
def RunI(P:Program)(g:Glob)(sops:List SOper):List Nat→FS→FS→Prop
 |[],s,sf=>s=sf
 |i::l,s,sf=>∃o s1,sops[i]?=some o∧Stp P g o s s1∧RunI P g sops l s1 sf
def MkAll(sops:List SOper):Prop:=∀(i j:Nat) a b,i≠j→sops[i]?=some a→sops[j]?=some b→mkOk a b=true
theorem mkOk_symm{a b:SOper}(h:mkOk a b=true):mkOk b a=true:=by
 grind [mkOk,List.all_eq_true,mkOk_spec]
theorem mkAll_of{draw:Bool}(h:z117 ops draw sops=true):MkAll sops:=by
 unfold z117 at h;rw[Bool.and_eq_true]at h;have key:∀(i j:Nat) a b,i<j→sops[i]?=some a→sops[j]?=some b→mkOk a b=true:=by
  intro i j a b hij ha hb;have hj:j<sops.length:=(gJ hb).1;have:=List.all_eq_true.1 (List.all_eq_true.1 h.1 j (by simpa using hj)) i (by simpa using hij)
  grind [pairOk]
 intro i j a b hne ha hb
 grind [Nat.lt_or_gt_of_ne,mkOk_symm]
def FreshI(sops:List SOper)(l:List Nat)(s:FS):Prop:=∀i∈l,∀o,sops[i]?=some o→FreshO o s
theorem z103(hmk:MkAll sops){l:List Nat}{i:Nat}{o:SOper}{s s1:FS}(hi:sops[i]?=some o)(hl:i∉l)(hf:FreshI sops l s)(hs:Stp P g o s s1):FreshI sops l s1:=by
 intro j hj p hp;obtain⟨C,_,hs⟩:=hs;exact fresh_after (hf j hj p hp) (hmk i j o p (by rintro rfl;exact hl hj) hi hp) hs
theorem swap_front(hmk:MkAll sops){i:Nat}{o:SOper}(hi:sops[i]?=some o){Bl:List Nat}{sf:FS}:∀(A:List Nat) (s:FS),(A++i::Bl).Nodup→(∀a∈A,∀oa,sops[a]?=some oa→apart oa o=true)→FreshI sops (A++i::Bl) s→
  RunI P g sops (A++i::Bl) s sf→∃s1,Stp P g o s s1∧RunI P g sops (A++Bl) s1 sf
 |[],s,_,_,_,h=>by
  obtain⟨o',s1,h0,h1,h2⟩:=h
  grind
 |a::A,s,hnd,hap,hf,h=>by
  obtain⟨oa,sa,hoa,h1,h2⟩:=h;simp only[List.cons_append,List.nodup_cons]at hnd;have hfa:FreshI sops (A++i::Bl) sa:=z103 hmk hoa hnd.1 (fun j hj=>hf j (List.mem_cons_of_mem _ hj)) h1;obtain⟨s1',h3,h4⟩:=swap_front hmk hi A sa hnd.2 (fun b hb=>hap b (List.mem_cons_of_mem _ hb)) hfa h2;obtain⟨C1,c1,h1⟩:=h1;obtain⟨C2,c2,h3⟩:=h3;obtain⟨s1,h5,h6⟩:=step_comm (hap a (List.mem_cons_self ..) oa hoa) (hmk a i oa o (by rintro rfl;exact hnd.1 (List.mem_append_right _ (List.mem_cons_self ..))) hoa hi) (hf a (List.mem_cons_self ..) oa hoa) (hf i (List.mem_cons_of_mem _ (List.mem_append_right _ (List.mem_cons_self ..))) o hi) h1 h3;exact⟨s1,⟨C2,c2,h5⟩,oa,s1',hoa,⟨C1,c1,h6⟩,h4⟩
def ClosedL(ops:Array Oper)(listed:Array Bool):Prop:=∀i o,ops[i]?=some o→listed.getD i true=true→∀e∈o.after,Region.binds .any e=true→listed.getD e.on false=true
theorem z161{listed:Array Bool}(hcl:ClosedL ops listed)(hsz:listed.size=ops.size):∀(f a i:Nat),(∀o,ops[i]?=some o→∀e∈o.after,Region.binds .any e=true→listed.getD e.on false=true)→ahead ops f a i=true→listed.getD a false=true:=by
 have hdir:∀a i,(∀o,ops[i]?=some o→∀e∈o.after,Region.binds .any e=true→listed.getD e.on false=true)→direct ops a i=true→listed.getD a false=true:=by
  intro a i h hd;unfold direct at hd;split at hd
  ·rename_i o ho;obtain⟨e,he1,he2⟩:=Array.any_eq_true'.1 hd;rw[Bool.and_eq_true]at he2
   grind [Nat.eq_of_beq_eq_true]
  ·cases hd
 intro f
 induction f with
 |zero=>exact hdir
 |succ f ih=>
  intro a i h hr;simp only[ahead,Bool.or_eq_true]at hr;rcases hr with hr|hr
  ·grind
  ·split at hr
   ·rename_i o ho;obtain⟨e,he1,he2⟩:=Array.any_eq_true'.1 hr;rw[Bool.and_eq_true]at he2;have hl:=h o ho e he1 he2.1;refine ih a e.on (fun o' ho' e' he' hb'=>hcl e.on o' ho' ?_ e' he' hb') he2.2
    grind
   ·cases hr
def rest(n:Nat)(listed:Array Bool):List Nat:=(List.range n).filter fun i=> !listed.getD i true
theorem any_sound(hm0:B.m≤1000)(hN:B.N≤1000)(hG:g.G B.w0)(hX:∀d b,B.X d b→g.n≤b){fps:Nat→Option Nat}(htr:z154 P B.N H fps ops 0 ops.toList=some sops)(hok:z117 ops true sops=true){sf:FS}{Q:Exit→Act→World→Prop}(hQ:∀a w E,Sim B sf a w E→Q .normal a w):
  ∀(fuel:Nat) (listed:Array Bool) (s:FS) (a:Act) (w:World) (E:Env),listed.size=ops.size→ClosedL ops listed→Sim B s a w E→FreshI sops (rest ops.size listed) s→RunI P g sops (rest ops.size listed) s sf→(rest ops.size listed).length≤fuel→
   wpAny P .any ops Q fuel listed a w:=by
 obtain⟨hlen,hspec⟩:=z81 htr;have hlen':ops.size=sops.length:=by simpa using hlen
 have hmk:=mkAll_of hok;have hback:∀(i:Nat) o,ops[i]?=some o→∀e∈o.after,Region.binds .any e=true→e.on<i:=by
  intro i o hi e he hb;unfold z117 at hok;rw[Bool.and_eq_true]at hok;have hil:i<sops.length:=by rw[←hlen'];exact(gA hi).1
  have h2:=hok.2;simp only[Bool.not_true,Bool.false_or]at h2;have:=List.all_eq_true.1 h2 i (by simpa using hil);rw[hi]at this;have:=Array.all_eq_true_iff_forall_mem.1 this e he;simp only[hb,Bool.not_true,Bool.false_or]at this;rw[Nat.blt_eq]at this;exact this
 have hrest:∀(listed:Array Bool) i,i∈rest ops.size listed ↔ i<ops.size∧listed.getD i true=false:=by
  intro listed i;simp[rest]
 have hready:∀(listed:Array Bool) i,i∈Region.ready .any ops listed ↔ i∈rest ops.size listed∧∀o,ops[i]?=some o→∀e∈o.after,Region.binds .any e=true→listed.getD e.on false=true:=by
  intro listed i;rw[hrest];unfold Region.ready;simp only[List.mem_filter,List.mem_range,Bool.and_eq_true,Bool.not_eq_true'];constructor
  ·rintro⟨h1,h2,h3⟩;refine⟨⟨h1,h2⟩,fun o ho e he hb=> ?_⟩;rw[ho]at h3;simp only[Option.map_some,Option.getD_some]at h3;have:=Array.all_eq_true_iff_forall_mem.1 h3 e he;simpa [hb]using this
  ·rintro⟨⟨h1,h2⟩,h3⟩;refine⟨h1,h2,?_⟩;obtain⟨o,ho⟩:∃o,ops[i]?=some o:=⟨_,Array.getElem?_eq_getElem h1⟩
   rw[ho];simp only[Option.map_some,Option.getD_some];refine Array.all_eq_true_iff_forall_mem.2 fun e he=> ?_;cases hb:Region.binds .any e
   ·rfl
   ·simp[h3 o ho e he hb]
 have hnil:∀(listed:Array Bool),listed.size=ops.size→Region.ready .any ops listed=[]→rest ops.size listed=[]:=by
  intro listed hsz hr;cases hrl:rest ops.size listed with
  |nil=>rfl
  |cons i l=>
   exfalso;have hi:i∈rest ops.size listed:=by rw[hrl];exact List.mem_cons_self ..
   have hmin:∀j,j<i→j∉rest ops.size listed:=by
    intro j hj hjm;have hp:(rest ops.size listed).Pairwise (·<·):=List.Pairwise.filter _ List.pairwise_lt_range;rw[hrl]at hp hjm;rcases List.mem_cons.1 hjm with rfl|hjm
    ·omega
    ·have:=(List.pairwise_cons.1 hp).1 j hjm;omega
   have:i∈Region.ready .any ops listed:=by
    rw[hready];refine⟨hi,fun o ho e he hb=> ?_⟩;have hlt:=hback i o ho e he hb;have hil:=((hrest listed i).1 hi).1;have hnm:=hmin e.on hlt;rw[hrest]at hnm;have hel:e.on<listed.size:=by omega
    have:listed.getD e.on true≠false:=fun h=>hnm ⟨by omega,h⟩;simpa [Array.getD,hel]using this
   rw[hr]at this;cases this
 intro fuel
 induction fuel with
 |zero=>
  intro listed s a w E hsz hcl hS hf hrun hle;have hr0:rest ops.size listed=[]:=List.eq_nil_of_length_eq_zero (by omega);rw[hr0]at hrun;have hrun:s=sf:=hrun;subst hrun;refine⟨?_,hQ a w E hS⟩;cases hrd:Region.ready .any ops listed with
  |nil=>rfl
  |cons i l=>
   have:=((hready listed i).1 (by rw[hrd];exact List.mem_cons_self ..)).1;rw[hr0]at this;cases this
 |succ fuel ih=>
  intro listed s a w E hsz hcl hS hf hrun hle;refine⟨fun hr=> ?_,fun i hi=> ?_⟩
  ·have hr0:=hnil listed hsz hr;rw[hr0]at hrun;have hrun:s=sf:=hrun;subst hrun;exact hQ a w E hS
  ·obtain⟨hir,hipre⟩:=(hready listed i).1 hi;obtain⟨hin,hil⟩:=(hrest listed i).1 hir;obtain⟨o,ho⟩:∃o,ops[i]?=some o:=⟨_,Array.getElem?_eq_getElem hin⟩
   obtain⟨so,hso,hto⟩:=hspec i o (by simpa using ho);obtain⟨A,Bl,hAB⟩:=List.append_of_mem hir;have hp:(rest ops.size listed).Pairwise (·<·):=List.Pairwise.filter _ List.pairwise_lt_range;have hnd:(rest ops.size listed).Nodup:=hp.imp (fun h=>Nat.ne_of_lt h);rw[hAB]at hp hnd hf hrun;have hA:∀j∈A,j<i:=fun j hj=>(List.pairwise_append.1 hp).2.2 j hj i (List.mem_cons_self ..);obtain⟨s1,hs1,hrun1⟩:=swap_front hmk hso A s hnd (fun j hj oa hoa=>by
    have hji:=hA j hj;have hjr:j∈rest ops.size listed:=by rw[hAB];exact List.mem_append_left _ hj
    have hjl:=((hrest listed j).1 hjr)
    unfold z117 at hok;rw[Bool.and_eq_true]at hok;have:=List.all_eq_true.1 (List.all_eq_true.1 hok.1 i (by simp;omega)) j (by simpa using hji);unfold pairOk at this;rw[hoa,hso]at this;simp only[Bool.and_eq_true,Bool.not_true,Bool.false_or,Bool.or_eq_true]at this;rcases this.2 with h1|h1
    ·exact h1
    ·have:=z161 hcl hsz 4 j i hipre h1;have hlt:j<listed.size:=by omega
     have h2:=hjl.2;simp[Array.getD,hlt]at this h2;rw[this]at h2;cases h2) hf hrun
   obtain⟨C1,hC1,hst1⟩:=hs1;have hs1:Stp P g so s s1:=⟨C1,hC1,hst1⟩
   refine sim_step hm0 hN hG hX hC1 hS ho hto (hf i (List.mem_append_right _ (List.mem_cons_self ..)) so hso) hst1 (fun a' w' E' hS'=> ?_);have hiAB:i∉A++Bl:=by
    have:=List.nodup_append.1 hnd;intro hm;rcases List.mem_append.1 hm with h1|h1
    ·exact this.2.2 i h1 i (List.mem_cons_self ..) rfl
    ·exact(List.nodup_cons.1 this.2.1).1 h1
   have hilt:i<listed.size:=by omega
   have hrest':rest ops.size (listed.setIfInBounds i true)=A++Bl:=by
    have h1:rest ops.size (listed.setIfInBounds i true)=(rest ops.size listed).filter (fun j=>j !=i):=by
     unfold rest;rw[List.filter_filter];apply List.filter_congr;intro j hj;have hjn:j<ops.size:=by simpa using hj
     have hjl:j<listed.size:=by omega
     by_cases hji:j=i
     ·subst hji;simp[Array.getD,hjl]
     ·simp[Array.getD,hjl,hji,Array.getElem_setIfInBounds,Ne.symm hji]
    rw[h1,hAB,List.filter_append,List.filter_cons];simp only[bne_self_eq_false,Bool.false_eq_true,if_false];rw[List.filter_eq_self.2,List.filter_eq_self.2]
    ·intro j hj;simp;rintro rfl;exact hiAB (List.mem_append_right _ hj)
    ·intro j hj;simp;rintro rfl;exact hiAB (List.mem_append_left _ hj)
   refine ih (listed.setIfInBounds i true) s1 a' w' E' (by simpa using hsz) ?_ hS' ?_ (by rw[hrest'];exact hrun1) ?_
   ·intro j oj hj hjl e he hb;have hset:∀k,listed.getD k false=true→(listed.setIfInBounds i true).getD k false=true:=by
     intro k hk;have hkl:k<listed.size:=by
      rcases Nat.lt_or_ge k listed.size with h1|h1
      ·exact h1
      ·simp[Array.getD,Nat.not_lt.2 h1]at hk
     by_cases hki:i=k
     ·subst hki;simp[Array.getD,hkl]
     ·rw[Array.getD_eq_getD_getElem?,Array.getElem?_setIfInBounds_ne hki,←Array.getD_eq_getD_getElem?];exact hk
    by_cases hji:j=i
    ·subst hji;exact hset _ (hipre oj hj e he hb)
    ·refine hset _ (hcl j oj hj ?_ e he hb);have hjn:j<listed.size:=by rw[hsz];exact(gA hj).1
     simp[Array.getD,hjn,Array.getElem_setIfInBounds,Ne.symm hji]at hjl;simp[Array.getD,hjn,hjl]
   ·rw[hrest'];refine z103 hmk hso hiAB (fun j hj=>hf j ?_) hs1;rcases List.mem_append.1 hj with h1|h1
    ·exact List.mem_append_left _ h1
    ·exact List.mem_append_right _ (List.mem_cons_of_mem _ h1)
   ·rw[hrest'];rw[hAB]at hle;simp at hle ⊢;omega
end
end
section
def SPan(P:Program)(g:Glob)(f:Nat)(xs:List TV)(os:List MO)(z:Value)(os':List MO):Prop:=
 hasBody P f∧∀(w:World) (E:Env) (vs:List Value),g.G w→MSim (start w E os 0) (objB os) (objR os) w E→(∀d b,objX E os d b→g.n≤b)→xs.length=vs.length→
  (∀(j:Nat) x v,xs[j]?=some x→vs[j]?=some v→RelT w E (objR os) x v)→
  Calls P f vs.toArray w fun e w'=>∃E',e=.panicked [{ v:=z,recovered:=false }]∧MSim (start w E os 0) (objB os') (objR os') w' E'∧Left E os E' os'
def panEff(P:Program)(g:Glob)(s:FS)(k f mode:Nat)(xs:List TV)(z:Value)(u:Upd):Prop:=
 ∃xs' os os' us,seqO (TV.ren2 (rhoIn (handI s mode xs))) xs=some xs'∧seqO (fun d=>(s.mo d).bind (MO.ren (rhoIn (handI s mode xs)))) (handI s mode xs)=some os∧SPan P g f xs' os z os'∧moOk os os'=true∧outs (rhoOut (handI s mode xs) k) 0 os'=some us∧u=.mem us
section
variable{B:Base}{s:FS}{a:Act}{w w':World}{E E':Env}{r:Rows}{P:Program}{C:Oracle}{g:Glob}
theorem wp_panAt(h:Sim B s a w E)(hG:g.G B.w0)(hX:∀d b,B.X d b→g.n≤b){o:Oper}{f mode:Nat}{xs:List TV}{vs:List Value}(hmx:∀x∈xs,∀d,Ment d x→s.ment d)(hl:xs.length=vs.length)(hxs:∀(j:Nat) x v,xs[j]?=some x→vs[j]?=some v→RelT w E s.r x v)
  (hop:hasBody P f→(execOp a.eval o).run P w=.ok (.enter f vs.toArray) w) (hm0:B.m≤1000) (hf:∀q<4,Fresh s (newId (dstId o.dst) q))
  {z:Value} {u:Upd} (he:panEff P g s (dstId o.dst) f mode xs z u) {next:Act→World→Prop} {Q:Exit→Act→World→Prop}
  (hn:∀w' E',Sim B (s.upd o.dst u) a w' E'→Q (.panic [{ v:=z,recovered:=false }]) a w'):o.wp P a w next Q:=by
 obtain⟨xs',os,os',us,h1,h2,⟨hbody,hcall⟩,h4,h6,rfl⟩:=he;obtain⟨hI,hIm⟩:=handI_spec mode hmx;have hn0:=g.le _ hG;have hw0:=h.mem.low.size;have hGw:g.G w:=g.st _ _ hG (fun k hk=>h.mem.low.block k (by omega) (fun d hd=>by have:=hX d k hd;omega));have hrho:RenOk E s.r (rhoIn (handI s mode xs)) (envIn E (handI s mode xs)) (objR os):=renIn h2;obtain⟨l1,q1⟩:=seqR (w:=w) (fun _ _ _=>ren2_rel hrho (fun _ _ _ h _=>h)) hl hxs h1;have hblk:∀d b,objX (envIn E (handI s mode xs)) os d b→g.n≤b:=by
  intro d b hx;obtain⟨hlen,hB,hR⟩:=handed h2;rcases hx with⟨cs,e1,e2⟩|⟨⟨e,W,n⟩,cap,e1,e2⟩
  ·obtain⟨j,rfl,hj⟩:=z49 e1;obtain⟨i,c,b1,b2,_⟩:=hB j cs hj;have e3:E.β i=b:=by grind [only,envIn,getD_of]
   rcases(h.mem.box i c b2).2 with e4|e4<;>grind
  ·obtain⟨j,rfl,hj⟩:=z30 e1;obtain⟨i,b1,b2,b3⟩:=hR j e W n hj;have e3:E.γ i=some (b,cap):=by grind [only,envIn,getD_of]
   rcases h.mem.row i e W n b3 with⟨e4,_⟩|⟨b',c',e4,e5,_⟩<;>grind
 have hcalls:=hcall w (envIn E (handI s mode xs)) vs hGw (z114 h hI h2) hblk l1 q1;unfold Oper.wp;rw[hop hbody];refine hcalls.mono ?_;rintro e w' ⟨E',rfl,hm,hleft⟩;obtain⟨hS,_⟩:=z174 h hI hIm hm0 hf h2 h4 h6 hm hleft o.dst
 grind
def PanG(P:Program)(g:Glob)(o:SOper)(s:FS)(z:Value)(u:Upd):Prop:=
 o.guard=none∧match o.op with
 | .pan x=>x.get s=some (.pv (.v z))∧(∃t v,z=.iface t v)∧u=.no
 | .call f m xs=>∃args,seqO (fun x:Arg=>x.get s) xs=some args∧panEff P g s (dstId o.dst) f m args z u
 |_=>False
def mayPan:SOp→Bool
 | .pan _=>true
 | .call _ m _=>Nat.beq m 3
 |_=>false
def quiet(o:SOper):Bool:= !o.op.wb&& !o.op.wr&& !o.op.wi&&o.news.isEmpty
theorem quiet_after{o:SOper}(hq:quiet o=true){s:FS}{e:TV×Upd}(he:effG P C o s=some e):(s.after o e).b=s.b∧(s.after o e).r=s.r∧(s.after o e).i=s.i∧∀k,o.dst≠some k→(s.after o e).t k=s.t k:=by
  unfold quiet at hq
  simp only[Bool.and_eq_true,Bool.not_eq_true',List.isEmpty_iff]at hq
  obtain⟨⟨⟨h1,h2⟩,h3⟩,h4⟩:=hq
  have h4:o.op.news o.dst=[]:=h4
  have hS:=z133 he
  refine⟨funext fun d=> ?_,funext fun d=> ?_,funext fun d=> ?_,fun k hk=> ?_⟩
  · unfold FS.after
    rw[put_b,upd_b]
    cases ho:ovB o.dst e.2 d with
    |none=>rfl
    | some cs => exact (by rcases hS.b d cs ho with h | ⟨h, _⟩; · rw [h4] at h; cases h
                           · rw[h1]at h;cases h)
  · unfold FS.after
    rw[put_r,upd_r]
    cases ho:ovR e.2 d with
    |none=>rfl
    | some cs => exact (by rcases hS.r d cs ho with h | ⟨h, _⟩; · rw [h4] at h; cases h
                           · rw[h2]at h;cases h)
  · unfold FS.after
    rw[put_i,upd_i]
    cases ho:ovI e.2 d with
    |none=>rfl
    | some cs => exact (by rcases hS.i d cs ho with h | ⟨h, _⟩; · rw [h4] at h; cases h
                           · rw[h3]at h;cases h)
  · unfold FS.after
    rw[put_t,upd_t,if_neg hk]
theorem reach_same{s s':FS}{rows:Bool}(hb:s'.b=s.b)(hr:s'.r=s.r):∀(n:Nat) (l seen:List Nat),reach s' rows n l seen=reach s rows n l seen
 |0,l,seen=>by simp only[reach]
 |n+1,[],seen=>by simp only[reach]
 |n+1,d::l,seen=>by
  simp only[reach,hb,hr,reach_same hb hr n]
theorem panG_congr{o:SOper}{s s':FS}{z:Value}{u:Upd}(hb:s'.b=s.b)(hr:s'.r=s.r)(ht:∀k∈o.reads,s'.t k=s.t k)(h:PanG P g o s' z u):PanG P g o s z u:=by
 obtain⟨hg,h⟩:=h;refine⟨hg,?_⟩;have hrd:∀k∈o.op.reads,s'.t k=s.t k:=fun k hk=>ht k (by simp[SOper.reads,hk]);cases hop:o.op with
 |pan x=>
  rw[hop]at h hrd;simp only at h ⊢;rw[z33 (x:=x) (s:=s) (s':=s') hrd]at h;exact h
 |call f m xs=>
  rw[hop]at h hrd;simp only at h ⊢;obtain⟨args,h1,h2⟩:=h;rw[z136 (s:=s) (s':=s') hrd]at h1
  grind [handI,reach_same,panEff,z142,only,FS.mo]
 |_=>grind
theorem trans_pan{o:Oper}{h:Nat}{x:Arg}(hop:z24 P o h=some (.pan x)):∃y,o.op=.panic y∧x=.of y:=by
 unfold z24 at hop
 repeat' (split at hop)
 all_goals first|(exact⟨_,by assumption,by cases hop;rfl⟩)|(cases hop;done)|(obtain⟨_,_,hx⟩:=gO hop;cases hx)
theorem trans_call{o:Oper}{h f m:Nat}{xs:List Arg}(hop:z24 P o h=some (.call f m xs)):∃ars ats,o.op=.call { callee:=.value (.func f),args:=ars,argTypes:=ats }∧xs=ars.toList.map Arg.of:=by
 unfold z24 at hop
 repeat' (split at hop)
 all_goals first|(cases hop;exact⟨_,_,by assumption,rfl⟩)|(cases hop;done)|(obtain⟨_,_,hx⟩:=gO hop;cases hx)
variable{H:Option Nat→Nat}{ops:Array Oper}{sops:List SOper}
theorem sim_pan(hm0:B.m≤1000)(hG:g.G B.w0)(hX:∀d b,B.X d b→g.n≤b){s:FS}(h:Sim B s a w E){i:Nat}{o:Oper}{so:SOper}{fp:Option Nat}(hi:ops[i]?=some o)(ht:z87 P B.N H fp ops o=some so)(hf:FreshO so s){z:Value}{u:Upd}(hp:PanG P g so s z u)
  {K:Act→World→Prop} {Q:Exit→Act→World→Prop} (hQ:∀w' E',Sim B (s.upd so.dst u) a w' E'→Q (.panic [{ v:=z,recovered:=false }]) a w'):wpOp P ops Q i K a w:=by
 unfold z87 at ht;split at ht<;>try(cases ht;done)
 rename_i gd op hg hop;split at ht<;>try(cases ht;done)
 rename_i hd;cases ht;obtain⟨hgn,hp⟩:=hp;have hgo:o.guard=none:=by
  cases hgo:o.guard<;>grind [only,z165]
 unfold wpOp;simp only[hi];rw[if_pos (by simp[Region.wanted,hgo])];refine .inl ?_;cases hoo:op with
 |pan x=>
  subst hoo;simp only at hp;obtain⟨h1,⟨t,v,rfl⟩,rfl⟩:=hp;have hpo:=trans_pan hop;obtain⟨y,hy,rfl⟩:=hpo;have hv:=val_rel (y:=.iface t v) (z17 h h1) rfl;unfold Oper.wp;have hrun:(execOp a.eval o).run P w=.halt (.panic (.iface t v)) w:=by
   simp only[execOp,hy,hv,Instr.panic];rfl
  rw[hrun];exact hQ w E h
 |call f m xs=>
  subst hoo;simp only at hp;obtain⟨args,h1,h2⟩:=hp;have hpo:=trans_call hop;obtain⟨ars,ats,hq,rfl⟩:=hpo;obtain⟨a1,a2,a3⟩:=get_list h h1;have harr:(ars.toList.map a.eval).toArray=ars.map a.eval:=by grind
  refine wp_panAt h hG hX a3 a1 a2 (fun hbody=> ?_) hm0 (fun q hq=>hf _ (by simp only[SOper.news,SOp.news];match q,hq with|0,_=>simp|1,_=>simp|2,_=>simp|3,_=>simp)) h2 (fun w' E' hS=>hQ w' E' hS);obtain⟨fn',body,b1,b2,b3⟩:=hbody;have hex:execOp a.eval o=callFunc f (#[]++ars.map a.eval++ #[]):=by
   obtain⟨dst,op,type,pos,after,guard⟩:=o
   dsimp only at hq
   subst hq;rfl
  rw[hex,harr];simp[callFunc,b1,b2,b3]
 |_=>grind
theorem beq_false'{a b:Nat}(h:a≠b):Nat.beq a b=false:=by grind [Nat.beq,Nat.eq_of_beq_eq_true]
def panOk(ops:Array Oper)(sops:List SOper):Bool:=(List.range sops.length).all fun k=>match sops[k]? with
 |some o=> !mayPan o.op||(List.range sops.length).all fun i=>Nat.beq i k||(if Nat.blt i k then(match sops[i]? with|some p=>quiet p|none=>true)||ahead ops 4 i k else ahead ops 4 k i)
 |none=>true
theorem quiet_run{o:SOper}{sk:FS}:∀(A:List Nat) (s:FS),(∀j∈A,∀oa,sops[j]?=some oa→quiet oa=true∧apart oa o=true)→RunI P g sops A s sk→
  sk.b=s.b∧sk.r=s.r∧sk.i=s.i∧(∀j∈o.reads,sk.t j=s.t j)∧(∀j,(∀o'∈sops,o'.dst≠some j)→sk.t j=s.t j)
 |[],s,_,h=>by have h:s=sk:=h;subst h;exact⟨rfl,rfl,rfl,fun _ _=>rfl,fun _ _=>rfl⟩
 |x::A,s,hA,h=>by
  obtain⟨oa,s1,hoa,⟨C,hC,hst⟩,h2⟩:=h;obtain⟨i1,i2,i3,i4,i5⟩:=quiet_run A s1 (fun j hj=>hA j (List.mem_cons_of_mem _ hj)) h2;obtain⟨hq,hap⟩:=hA x (List.mem_cons_self ..) oa hoa;obtain⟨e,he,rfl⟩:=gO hst
  grind [quiet_after,List.mem_of_getElem?,apart]
theorem any_pan(hm0:B.m≤1000)(hN:B.N≤1000)(hG:g.G B.w0)(hX:∀d b,B.X d b→g.n≤b){fps:Nat→Option Nat}(htr:z154 P B.N H fps ops 0 ops.toList=some sops)(hok:z117 ops true sops=true)(hpo:panOk ops sops=true){kk:Nat}{ok:SOper}(hkk:sops[kk]?=some ok)(hmay:mayPan ok.op=true)
  {z:Value} {u:Upd} {sk:FS} (hp:PanG P g ok sk z u) {Q:Exit→Act→World→Prop}
  (hQ:∀(s1:FS) a w E,s1.b=sk.b→s1.r=sk.r→s1.i=sk.i→(∀j,(∀o'∈sops,o'.dst≠some j)→s1.t j=sk.t j)→Sim B (s1.upd ok.dst u) a w E→Q (.panic [{ v:=z,recovered:=false }]) a w):
  ∀(fuel:Nat) (listed:Array Bool) (s:FS) (a:Act) (w:World) (E:Env),listed.size=ops.size→ClosedL ops listed→Sim B s a w E→FreshI sops (rest ops.size listed) s→listed.getD kk true=false→RunI P g sops ((rest ops.size listed).filter (fun i=>decide (i<kk))) s sk→(rest ops.size listed).length≤fuel→
   wpAny P .any ops Q fuel listed a w:=by
 obtain⟨hlen,hspec⟩:=z81 htr;have hlen':ops.size=sops.length:=by simpa using hlen
 have hmk:=mkAll_of hok;have hback:∀(i:Nat) o,ops[i]?=some o→∀e∈o.after,Region.binds .any e=true→e.on<i:=by
  intro i o hi e he hb;unfold z117 at hok;rw[Bool.and_eq_true]at hok;have hil:i<sops.length:=by rw[←hlen'];exact(gA hi).1
  have h2:=hok.2;simp only[Bool.not_true,Bool.false_or]at h2;have:=List.all_eq_true.1 h2 i (by simpa using hil);rw[hi]at this;have:=Array.all_eq_true_iff_forall_mem.1 this e he;simp only[hb,Bool.not_true,Bool.false_or]at this;rw[Nat.blt_eq]at this;exact this
 have hrest:∀(listed:Array Bool) i,i∈rest ops.size listed ↔ i<ops.size∧listed.getD i true=false:=by
  intro listed i;simp[rest]
 have hready:∀(listed:Array Bool) i,i∈Region.ready .any ops listed ↔ i∈rest ops.size listed∧∀o,ops[i]?=some o→∀e∈o.after,Region.binds .any e=true→listed.getD e.on false=true:=by
  intro listed i;rw[hrest];unfold Region.ready;simp only[List.mem_filter,List.mem_range,Bool.and_eq_true,Bool.not_eq_true'];constructor
  ·rintro⟨h1,h2,h3⟩;refine⟨⟨h1,h2⟩,fun o ho e he hb=> ?_⟩;rw[ho]at h3;simp only[Option.map_some,Option.getD_some]at h3;have:=Array.all_eq_true_iff_forall_mem.1 h3 e he;simpa [hb]using this
  ·rintro⟨⟨h1,h2⟩,h3⟩;refine⟨h1,h2,?_⟩;obtain⟨o,ho⟩:∃o,ops[i]?=some o:=⟨_,Array.getElem?_eq_getElem h1⟩
   rw[ho];simp only[Option.map_some,Option.getD_some];refine Array.all_eq_true_iff_forall_mem.2 fun e he=> ?_;cases hb:Region.binds .any e
   ·rfl
   ·simp[h3 o ho e he hb]
 have hnil:∀(listed:Array Bool),listed.size=ops.size→Region.ready .any ops listed=[]→rest ops.size listed=[]:=by
  intro listed hsz hr;cases hrl:rest ops.size listed with
  |nil=>rfl
  |cons i l=>
   exfalso;have hi:i∈rest ops.size listed:=by rw[hrl];exact List.mem_cons_self ..
   have hmin:∀j,j<i→j∉rest ops.size listed:=by
    intro j hj hjm;have hp:(rest ops.size listed).Pairwise (·<·):=List.Pairwise.filter _ List.pairwise_lt_range;rw[hrl]at hp hjm;rcases List.mem_cons.1 hjm with rfl|hjm
    ·omega
    ·have:=(List.pairwise_cons.1 hp).1 j hjm;omega
   have:i∈Region.ready .any ops listed:=by
    rw[hready];refine⟨hi,fun o ho e he hb=> ?_⟩;have hlt:=hback i o ho e he hb;have hil:=((hrest listed i).1 hi).1;have hnm:=hmin e.on hlt;rw[hrest]at hnm;have hel:e.on<listed.size:=by omega
    have:listed.getD e.on true≠false:=fun h=>hnm ⟨by omega,h⟩;simpa [Array.getD,hel]using this
   rw[hr]at this;cases this
 have hkkn:kk<ops.size:=by rw[hlen'];exact(gJ hkk).1
 have hpk:∀i,i<ops.size→i≠kk→(i<kk→(∀p,sops[i]?=some p→quiet p=true)∨ahead ops 4 i kk=true)∧(kk<i→ahead ops 4 kk i=true):=by
  intro i hi hne;unfold panOk at hpo;have h1:=List.all_eq_true.1 hpo kk (by rw[←hlen'];simpa using hkkn);simp only[hkk,hmay,Bool.not_true,Bool.false_or]at h1;have h2:=List.all_eq_true.1 h1 i (by rw[←hlen'];simpa using hi);rw[beq_false' hne,Bool.false_or]at h2;refine⟨fun hlt=> ?_,fun hgt=> ?_⟩
  ·rw[if_pos (by rw[Nat.blt_eq];exact hlt)]at h2;rw[Bool.or_eq_true]at h2;rcases h2 with h2|h2
   ·exact .inl (fun p hp=>by rw[hp]at h2;exact h2)
   ·exact .inr h2
  ·rw[if_neg (by rw[Nat.blt_eq];omega)]at h2;exact h2
 intro fuel
 induction fuel with
 |zero=>
  intro listed s a w E hsz hcl hS hf hun hrun hle;exfalso;have hr0:rest ops.size listed=[]:=List.eq_nil_of_length_eq_zero (by omega);have:=(hrest listed kk).2 ⟨hkkn,hun⟩;rw[hr0]at this;cases this
 |succ fuel ih=>
  intro listed s a w E hsz hcl hS hf hun hrun hle;have hkr:kk∈rest ops.size listed:=(hrest listed kk).2 ⟨hkkn,hun⟩;refine⟨fun hr=> ?_,fun i hi=> ?_⟩
  ·exfalso;have hr0:=hnil listed hsz hr;rw[hr0]at hkr;cases hkr
  ·obtain⟨hir,hipre⟩:=(hready listed i).1 hi;obtain⟨hin,hil⟩:=(hrest listed i).1 hir;obtain⟨o,ho⟩:∃o,ops[i]?=some o:=⟨_,Array.getElem?_eq_getElem hin⟩
   obtain⟨so,hso,hto⟩:=hspec i o (by simpa using ho);have hp0:(rest ops.size listed).Pairwise (·<·):=List.Pairwise.filter _ List.pairwise_lt_range;have hnl:∀j,j<ops.size→listed.getD j true=false→listed.getD j false=true→False:=by
    intro j hj h1 h2;have hlt:j<listed.size:=by omega
    simp[Array.getD,hlt]at h1 h2;rw[h1]at h2;cases h2
   have hapart:∀j,j<i→listed.getD j true=false→∀oa,sops[j]?=some oa→apart oa so=true:=by
    intro j hji hjl oa hoa;have hjn:j<ops.size:=by omega
    have hok2:=hok;unfold z117 at hok2;rw[Bool.and_eq_true]at hok2;have:=List.all_eq_true.1 (List.all_eq_true.1 hok2.1 i (by simp;omega)) j (by simpa using hji);unfold pairOk at this;rw[hoa,hso]at this;simp only[Bool.and_eq_true,Bool.not_true,Bool.false_or,Bool.or_eq_true]at this;rcases this.2 with h1|h1
    ·exact h1
    ·exact(hnl j hjn hjl (z161 hcl hsz 4 j i hipre h1)).elim
   rcases Nat.lt_trichotomy i kk with hlt|heq|hgt
   ·
    have hiA:i∈(rest ops.size listed).filter (fun i=>decide (i<kk)):=by simp[hir,hlt]
    obtain⟨A,Bl,hAB⟩:=List.append_of_mem hiA;have hpA:((rest ops.size listed).filter (fun i=>decide (i<kk))).Pairwise (·<·):=List.Pairwise.filter _ hp0;have hfA:FreshI sops ((rest ops.size listed).filter (fun i=>decide (i<kk))) s:=fun j hj=>hf j ((List.mem_filter.1 hj).1);have hnd:((rest ops.size listed).filter (fun i=>decide (i<kk))).Nodup:=hpA.imp (fun h=>Nat.ne_of_lt h);rw[hAB]at hpA hnd hfA hrun;have hA:∀j∈A,j<i:=fun j hj=>(List.pairwise_append.1 hpA).2.2 j hj i (List.mem_cons_self ..);obtain⟨s1,hs1,hrun1⟩:=swap_front hmk hso A s hnd (fun j hj oa hoa=>by
     have hjr:j∈(rest ops.size listed).filter (fun i=>decide (i<kk)):=by rw[hAB];exact List.mem_append_left _ hj
     exact hapart j (hA j hj) ((hrest listed j).1 ((List.mem_filter.1 hjr).1)).2 oa hoa) hfA hrun
    obtain⟨C1,hC1,hst1⟩:=hs1;have hs1:Stp P g so s s1:=⟨C1,hC1,hst1⟩
    refine sim_step hm0 hN hG hX hC1 hS ho hto (hf i hir so hso) hst1 (fun a' w' E' hS'=> ?_);have hilt:i<listed.size:=by omega
    have hrest':rest ops.size (listed.setIfInBounds i true)=(rest ops.size listed).filter (fun j=>j !=i):=by
     unfold rest;rw[List.filter_filter];apply List.filter_congr;intro j hj;have hjn:j<ops.size:=by simpa using hj
     have hjl:j<listed.size:=by omega
     by_cases hji:j=i
     ·subst hji;simp[Array.getD,hjl]
     ·simp[Array.getD,hjl,hji,Array.getElem_setIfInBounds,Ne.symm hji]
    have hiAB:i∉A++Bl:=by
     have:=List.nodup_append.1 hnd;intro hm;rcases List.mem_append.1 hm with h1|h1
     ·exact this.2.2 i h1 i (List.mem_cons_self ..) rfl
     ·exact(List.nodup_cons.1 this.2.1).1 h1
    have hfil:((rest ops.size listed).filter (fun j=>j !=i)).filter (fun i=>decide (i<kk))=A++Bl:=by
     rw[List.filter_filter];have:(rest ops.size listed).filter (fun a=>decide (a<kk)&&(a !=i))=((rest ops.size listed).filter (fun i=>decide (i<kk))).filter (fun j=>j !=i):=by
      rw[List.filter_filter];apply List.filter_congr;intro j _;exact Bool.and_comm _ _
     rw[this,hAB,List.filter_append,List.filter_cons];simp only[bne_self_eq_false,Bool.false_eq_true,if_false];rw[List.filter_eq_self.2,List.filter_eq_self.2]
     ·intro j hj;simp;rintro rfl;exact hiAB (List.mem_append_right _ hj)
     ·intro j hj;simp;rintro rfl;exact hiAB (List.mem_append_left _ hj)
    refine ih (listed.setIfInBounds i true) s1 a' w' E' (by simpa using hsz) ?_ hS' ?_ ?_ (by rw[hrest',hfil];exact hrun1) ?_
    ·intro j oj hj hjl e he hb;have hset:∀k,listed.getD k false=true→(listed.setIfInBounds i true).getD k false=true:=by
      intro k hk;have hkl:k<listed.size:=by
       rcases Nat.lt_or_ge k listed.size with h1|h1
       ·exact h1
       ·simp[Array.getD,Nat.not_lt.2 h1]at hk
      by_cases hki:i=k
      ·subst hki;simp[Array.getD,hkl]
      ·rw[Array.getD_eq_getD_getElem?,Array.getElem?_setIfInBounds_ne hki,←Array.getD_eq_getD_getElem?];exact hk
     by_cases hji:j=i
     ·subst hji;exact hset _ (hipre oj hj e he hb)
     ·refine hset _ (hcl j oj hj ?_ e he hb);have hjn:j<listed.size:=by rw[hsz];exact(gA hj).1
      simp[Array.getD,hjn,Array.getElem_setIfInBounds,Ne.symm hji]at hjl;simp[Array.getD,hjn,hjl]
    ·rw[hrest'];refine z103 hmk hso (by simp) (fun j hj=>hf j ((List.mem_filter.1 hj).1)) hs1
    ·have hkl:kk<listed.size:=by omega
     have hne:i≠kk:=by omega
     rw[Array.getD_eq_getD_getElem?,Array.getElem?_setIfInBounds_ne hne,←Array.getD_eq_getD_getElem?];exact hun
    ·rw[hrest'];have h1:((rest ops.size listed).filter (fun j=>j !=i)).length<(rest ops.size listed).length:=by
      refine List.length_filter_lt_length_iff_exists.2 ⟨i,hir,by simp⟩
     omega
   ·
    subst heq;rw[hkk]at hso;cases hso;obtain⟨q1,q2,q3,q4,q5⟩:=quiet_run (o:=ok) _ s (fun j hj oa hoa=>by
     have hjr:=(List.mem_filter.1 hj).1;have hji:j<i:=by simpa using(List.mem_filter.1 hj).2
     obtain⟨hjn,hjl⟩:=(hrest listed j).1 hjr;refine⟨?_,hapart j hji hjl oa hoa⟩;rcases(hpk j hjn (by omega)).1 hji with h1|h1
     ·exact h1 oa hoa
     ·exact(hnl j hjn hjl (z161 hcl hsz 4 j i hipre h1)).elim) hrun
    have hp':PanG P g ok s z u:=panG_congr q1 q2 q4 hp;exact sim_pan hm0 hG hX hS ho hto (hf i hir ok hkk) hp' (fun w' E' hS'=>hQ s a w' E' q1.symm q2.symm q3.symm (fun j hj=>(q5 j hj).symm) hS')
   ·exact(hnl kk hkkn hun (z161 hcl hsz 4 kk i hipre ((hpk i hin (by omega)).2 hgt))).elim
end
end
section
def lk{α:Type}:List (Nat×α)→Nat→Option α
 |[],_=>none
 |(k,x)::l,d=>match Nat.beq k d with|true=>some x|false=>lk l d
def sv{α:Type}:List (Nat×α)→Nat→α→List (Nat×α)
 |[],k,x=>[(k,x)]
 |(j,y)::l,k,x=>match Nat.beq j k with|true=>(k,x)::l|false=>(j,y)::sv l k x
def has:List Nat→Nat→Bool
 |[],_=>false
 |k::l,d=>match Nat.beq k d with|true=>true|false=>has l d
def drp{α:Type}(ids:List Nat):List (Nat×α)→List (Nat×α)
 |[]=>[]
 |(k,x)::l=>match has ids k with|true=>drp ids l|false=>(k,x)::drp ids l
theorem lk_sv{α:Type}(k:Nat)(x:α):∀l:List (Nat×α),lk (sv l k x)=setF (lk l) k x
 |[]=>by
  grind [only,sv,lk,setF,Nat.beq_refl,Nat.beq,Nat.eq_of_beq_eq_true]
 |(j,y)::l=>by
  have ih:=lk_sv k x l;funext d;simp only[sv];cases hj:Nat.beq j k with
  |true=>
   grind [Nat.eq_of_beq_eq_true,only,lk,setF,Nat.beq_refl,Nat.beq]
  |false=>
   have hne:j≠k:=by grind [Nat.beq_refl]
   simp only[lk,ih,setF]
   grind
theorem has_mem:∀{l:List Nat} {d:Nat},has l d=true ↔ d∈l
 |[],d=>by simp[has]
 |k::l,d=>by
  simp only[has];cases hb:Nat.beq k d with
  |true=>simp_all
  |false=>
   have:d≠k:=by grind [Nat.beq_refl]
   simp[this,has_mem]
theorem lk_drp{α:Type}{ids:List Nat}:∀(l:List (Nat×α)) (d:Nat),lk (drp ids l) d=if has ids d then none else lk l d
 |[],d=>by simp[drp,lk]
 |(k,x)::l,d=>by
  have ih:=lk_drp (ids:=ids) l d
  grind [only,drp,has,lk,Nat.beq,Nat.eq_of_beq_eq_true]
theorem lk_map{α:Type}(f:α→α):∀(l:List (Nat×α)) (d:Nat),lk (l.map fun e=>(e.1,f e.2)) d=(lk l d).map f
 |[],d=>rfl
 |(k,x)::l,d=>by
  simp only[List.map_cons,lk];cases Nat.beq k d with
  |true=>rfl
  |false=>exact lk_map f l d
structure ES where
 t:List (Nat×TV)
 b:List (Nat×List TV)
 r:List (Nat×(Nat×Nat×Nat))
 i:List (Nat×(ByteArray×Nat))
def ES.fs(s:ES):FS:=⟨lk s.t,lk s.b,lk s.r,lk s.i⟩
def putMem(us:List (Nat×MO))(s:ES):List Nat→ES
 |[]=>s
 |i::l=>match us.lookup i with
  |some (.box cs)=>let s':=putMem us s l;{ s' with b:=sv s'.b i cs }
  |some (.row e W n)=>let s':=putMem us s l;{ s' with r:=sv s'.r i (e,W,n) }
  |none=>putMem us s l
def ES.upd(s:ES)(dst:Option Nat):Upd→ES
 | .no=>s
 | .box cs=>match dst with|some d=>{ s with b:=sv s.b d cs }|none=>s
 | .wr d cs=>{ s with b:=sv s.b d cs }
 | .row d q=>{ s with r:=sv s.r d q }
 | .mem us=>putMem us s (us.map (·.1))
 | .it d q=>{ s with i:=sv s.i d q }
def ES.put(s:ES)(dst:Option Nat)(x:TV):ES:=match dst with|some k=>{ s with t:=sv s.t k x }|none=>s
def ES.after(s:ES)(o:SOper)(e:TV×Upd):ES:=(s.upd o.dst e.2).put o.dst e.1
theorem putMem_spec(us:List (Nat×MO))(s:ES):∀l:List Nat,(putMem us s l).t=s.t∧(putMem us s l).i=s.i∧(∀d,lk (putMem us s l).b d=if d∈l then memB us (lk s.b) d else lk s.b d)∧(∀d,lk (putMem us s l).r d=if d∈l then memR us (lk s.r) d else lk s.r d)
 |[]=>by simp[putMem]
 |i::l=>by
  obtain⟨h1,h2,h3,h4⟩:=putMem_spec us s l;simp only[putMem];cases hm:us.lookup i with
  |none=>
   grind [memB,memR]
  |some m=>
   cases m with
   |box cs=>
    refine⟨h1,h2,fun d=> ?_,fun d=> ?_⟩
    ·simp only[lk_sv,setF,h3]
     grind [memB]
    ·grind [only,memR]
   |row e W n=>
    refine⟨h1,h2,fun d=> ?_,fun d=> ?_⟩
    ·grind [only,memB]
    ·simp only[lk_sv,setF,h4]
     grind [memR]
theorem lookup_none{us:List (Nat×MO)}{d:Nat}(h:d∉us.map (·.1)):us.lookup d=none:=by
 grind
theorem ES.upd_fs(s:ES)(dst:Option Nat)(u:Upd):(s.upd dst u).fs=s.fs.upd dst u:=by
 cases u with
 |no=>rfl
 |box cs=>
  cases dst<;>grind [only,ES.upd,ES.fs,FS.upd,FS.setB,lk_sv]
 |wr d cs=>simp only[ES.upd,ES.fs,FS.upd,FS.setB,lk_sv]
 |row d q=>simp only[ES.upd,ES.fs,FS.upd,FS.setR,lk_sv]
 |it d q=>simp only[ES.upd,ES.fs,FS.upd,FS.setI,lk_sv]
 |mem us=>
  obtain⟨h1,h2,h3,h4⟩:=putMem_spec us s (us.map (·.1));simp only[ES.upd,ES.fs,FS.upd];refine FS.ext' (fun k=> ?_) (fun k=> ?_) (fun k=> ?_) (fun k=> ?_)
  ·simp[h1]
  ·grind [only,memB,lookup_none]
  ·grind [only,memR,lookup_none]
  ·simp[h2]
theorem ES.put_fs(s:ES)(dst:Option Nat)(x:TV):(s.put dst x).fs=s.fs.put dst x:=by
 cases dst<;>grind [only,ES.put,ES.fs,FS.put,FS.setT,lk_sv]
theorem ES.after_fs(s:ES)(o:SOper)(e:TV×Upd):(s.after o e).fs=s.fs.after o e:=by
 unfold ES.after FS.after;rw[ES.put_fs,ES.upd_fs]
def TV.m0(ids:List Nat):TV→Bool
 | .pv _| .unk=>false
 | .ptr d _| .own d _ _| .bs d _ _ _| .it d=>has ids d
 |_=>true
def TV.mF(ids:List Nat):TV→Bool
 | .fn _ a b=>a.any (TV.m0 ids)||b.any (TV.m0 ids)
 |t=>t.m0 ids
def TV.mE(ids:List Nat):TV→Bool
 | .agg cs=>cs.any (TV.mF ids)
 |t=>t.mF ids
def TV.m1(ids:List Nat):TV→Bool
 | .mp _ xs=>xs.any (TV.mE ids)
 |t=>t.mF ids
def TV.m2(ids:List Nat):TV→Bool
 | .agg cs=>cs.any (TV.m1 ids)
 |t=>t.m1 ids
def TV.m3(ids:List Nat):TV→Bool
 | .tuple cs=>cs.any (TV.m2 ids)
 |t=>t.m2 ids
theorem m0_ment{ids:List Nat}{t:TV}{d:Nat}(h:t.m0 ids=false)(hd:d∈ids):¬Ment d t:=by
 intro hm;cases hm<;>simp only[TV.m0]at h
 all_goals first|(rw[has_mem.2 hd]at h;cases h)|cases h
theorem mF_ment{ids:List Nat}{t:TV}{d:Nat}(h:t.mF ids=false)(hd:d∈ids):¬Ment d t:=by
 cases t with
 |fn f a b=>
  intro hm;simp only[TV.mF,Bool.or_eq_false_iff,List.any_eq_false]at h;cases hm<;>grind [m0_ment]
 |_=>exact m0_ment h hd
theorem mE_ment{ids:List Nat}{t:TV}{d:Nat}(h:t.mE ids=false)(hd:d∈ids):¬Ment d t:=by
 cases t with
 |agg cs=>
  intro hm;simp only[TV.mE,List.any_eq_false]at h;cases hm<;>grind [mF_ment]
 |_=>exact mF_ment h hd
theorem m1_ment{ids:List Nat}{t:TV}{d:Nat}(h:t.m1 ids=false)(hd:d∈ids):¬Ment d t:=by
 cases t with
 |mp ks xs=>
  intro hm;simp only[TV.m1,List.any_eq_false]at h;cases hm<;>grind [mE_ment]
 |_=>exact mF_ment h hd
theorem m2_ment{ids:List Nat}{t:TV}{d:Nat}(h:t.m2 ids=false)(hd:d∈ids):¬Ment d t:=by
 cases t with
 |agg cs=>
  intro hm;simp only[TV.m2,List.any_eq_false]at h;cases hm<;>grind [m1_ment]
 |_=>exact m1_ment h hd
theorem m3_ment{ids:List Nat}{t:TV}{d:Nat}(h:t.m3 ids=false)(hd:d∈ids):¬Ment d t:=by
 cases t with
 |tuple cs=>
  intro hm;simp only[TV.m3,List.any_eq_false]at h;cases hm<;>grind [m2_ment]
 |_=>exact m2_ment h hd
def fgt3(ids:List Nat)(x:TV):TV:=match x.m3 ids with|true=> .unk|false=>x
def ES.fgt(s:ES)(ids:List Nat):ES:=
 ⟨s.t.map fun e=>(e.1,fgt3 ids e.2),(drp ids s.b).map fun e=>(e.1,e.2.map (fgt3 ids)),drp ids s.r,drp ids s.i⟩
theorem fgt3_cases(ids:List Nat)(x:TV):fgt3 ids x=x∨fgt3 ids x=.unk:=by
 grind [fgt3]
theorem fgt3_ment{ids:List Nat}{x:TV}{d:Nat}(hd:d∈ids):¬Ment d (fgt3 ids x):=by
 unfold fgt3;cases h:x.m3 ids with
 |true=>intro hm;cases hm
 |false=>exact m3_ment h hd
theorem fgt_b(s:ES)(ids:List Nat)(d:Nat):(s.fgt ids).fs.b d=if has ids d then none else(lk s.b d).map fun cs=>cs.map (fgt3 ids):=by
 show lk ((drp ids s.b).map fun e=>(e.1,e.2.map (fgt3 ids))) d=_;rw[lk_map (fun cs:List TV=>cs.map (fgt3 ids)) (drp ids s.b) d,lk_drp]
 grind
theorem z84{B:Base}{s:ES}{a:Act}{w:World}{E:Env}(h:Sim B s.fs a w E)(ids:List Nat):Sim B (s.fgt ids).fs a w E:=by
 refine h.less (fun k x hx=> ?_) (fun d cs' hd=> ?_) (fun d q hd=> ?_) (fun d q hd=> ?_)
 ·have hx:lk (s.t.map fun e=>(e.1,fgt3 ids e.2)) k=some x:=hx;rw[lk_map (fgt3 ids)]at hx;obtain⟨y,h1,rfl⟩:=gO hx;rcases fgt3_cases ids y with e|e
  ·rw[e];exact .inl h1
  ·exact .inr ⟨e,y,h1⟩
 ·rw[fgt_b]at hd;split at hd
  ·cases hd
  ·obtain⟨cs,h1,rfl⟩:=gO hd;refine⟨cs,h1,fun j c hc=> ?_⟩
   grind [Option.map_eq_some_iff,fgt3_cases]
 ·have hd:lk (drp ids s.r) d=some q:=hd;rw[lk_drp]at hd;split at hd
  ·cases hd
  ·exact hd
 ·have hd:lk (drp ids s.i) d=some q:=hd;rw[lk_drp]at hd;split at hd
  ·cases hd
  ·exact hd
theorem z64(s:ES){ids:List Nat}{d:Nat}(hd:d∈ids):Fresh (s.fgt ids).fs d:=by
 have hh:=has_mem.2 hd;refine⟨?_,by rw[fgt_b,hh];rfl,by show lk (drp ids s.r) d=none;rw[lk_drp,hh];rfl,by show lk (drp ids s.i) d=none;rw[lk_drp,hh];rfl⟩;rintro(⟨k,x,hx,hm⟩|⟨e,cs,c,he,hc,hm⟩)
 ·have hx:lk (s.t.map fun e=>(e.1,fgt3 ids e.2)) k=some x:=hx;rw[lk_map (fgt3 ids)]at hx
  grind [Option.map_eq_some_iff,fgt3_ment]
 ·grind [fgt_b,Option.map_eq_some_iff,fgt3_ment]
def ES.kill(s:ES)(ks:List Nat):ES:=match ks with|[]=>s|_=>{ s with t:=drp ks s.t }
theorem z186{B:Base}{s:ES}{a:Act}{w:World}{E:Env}(h:Sim B s.fs a w E)(ks:List Nat):Sim B (s.kill ks).fs a w E:=by
 unfold ES.kill;split
 ·exact h
 ·refine h.less (fun k x hx=> .inl ?_) (fun d cs hd=>⟨cs,hd,fun j c hc=> .inl hc⟩) (fun d q hd=>hd) (fun d q hd=>hd);have hx:lk (drp ks s.t) k=some x:=hx;rw[lk_drp]at hx;split at hx
  ·cases hx
  ·exact hx
def runE(P:Program)(C:Oracle):List SOper→ES→Option ES
 |[],s=>some s
 |o::l,s=>match effG P C o s.fs with
  |some e=>runE P C l (s.after o e)
  |none=>none
def opsW(P:Program)(g:Glob):List SOper→(ES→Prop)→ES→Prop
 |[],K,s=>K s
 |o::l,K,s=>∃C,SoundC P g C∧∃e,effG P C o s.fs=some e∧opsW P g l K (s.after o e)
theorem z191{P:Program}{g:Glob}{sops:List SOper}{K:ES→Prop}:∀{l:List SOper} {j:Nat} {s:ES},sops.drop j=l→opsW P g l K s→∃s',RunI P g sops (List.range' j l.length) s.fs s'.fs∧K s'
 |[],j,s,_,h=>⟨s,rfl,h⟩
 |o::l,j,s,hd,h=>by
  obtain⟨C,hC,e,he,h⟩:=h;have hj:sops[j]?=some o:=by
   have:=congrArg (·[0]?) hd
   grind
  have hd':sops.drop (j+1)=l:=by
   have:=congrArg (List.drop 1) hd
   grind [List.drop_drop,Nat.add_comm]
  obtain⟨s',h1,h2⟩:=z191 hd' h;refine⟨s',⟨o,s.fs.after o e,hj,⟨C,hC,by unfold step;rw[he];rfl⟩,?_⟩,h2⟩
  grind [ES.after_fs]
section
variable{P:Program}{H:Option Nat→Nat}{ops:Array Oper}{B:Base}{sops:List SOper}{g:Glob}{draw:Bool}{id:Nat}
theorem region_sound(hmix:P.follows .mixedOrders=true)(hm0:B.m≤1000)(hN:B.N≤1000)(hG:g.G B.w0)(hX:∀d b,B.X d b→g.n≤b){fps:Nat→Option Nat}(htr:z44 P B.N H fps ops draw=some sops){s:ES}{K:ES→Prop}
  (hf:∀d∈sops.flatMap SOper.news,Fresh s.fs d) (h:opsW P g sops K s) {a:Act} {w:World} {E:Env} (hS:Sim B s.fs a w E) {Q:Exit→Act→World→Prop} (hQ:∀s' a' w' E',K s'→Sim B s'.fs a' w' E'→Q .normal a' w'):
  (Code.region id ops draw).wp P Q a w:=by
 unfold z44 at htr;split at htr<;>try(cases htr;done)
 rename_i sops' hseq;split at htr<;>try(cases htr;done)
 rename_i hok;cases htr;obtain⟨s',hrun,hK⟩:=z191 (sops:=sops) (l:=sops) (j:=0) rfl h;obtain⟨hlen,hspec⟩:=z81 hseq;have hlen':ops.size=sops.length:=by omega
 have hfi:∀l,FreshI sops l s.fs:=fun l i _ o ho d hd=>hf d (List.mem_flatMap.2 ⟨o,gM ho,hd⟩);have hmk:=mkAll_of hok;rw[←List.range_eq_range',←hlen']at hrun;cases draw with
 |false=>
  refine wp_region ?_;have key:∀(l:List Nat) (s:FS) (a:Act) (w:World) (E:Env),l.Nodup→Sim B s a w E→FreshI sops l s→RunI P g sops l s s'.fs→wpOps P ops Q l a w:=by
   intro l
   induction l with
   |nil=>intro s a w E _ hS _ hr;have hr:s=s'.fs:=hr;subst hr;exact hQ s' a w E hK hS
   |cons i l ih=>
    intro s a w E hnd hS hf hr;obtain⟨o,s1,ho,⟨C,hC,hst⟩,hr⟩:=hr;have hil:i<ops.size:=by grind
    have hoi:ops[i]?=some ops[i]:=Array.getElem?_eq_getElem hil;obtain⟨so,hso,hto⟩:=hspec i ops[i] (by simp[hil]);rw[ho]at hso;cases hso;rw[wpOps_cons];refine sim_step hm0 hN hG hX hC hS hoi hto (hf i (List.mem_cons_self ..) o ho) hst (fun a' w' E' hS'=> ?_);exact ih s1 a' w' E' (List.nodup_cons.1 hnd).2 hS' (z103 hmk ho (List.nodup_cons.1 hnd).1 (fun j hj=>hf j (List.mem_cons_of_mem _ hj)) ⟨C,hC,hst⟩) hr
  grind
 |true=>
  refine wp_region_any hmix ?_;have hrest:rest ops.size (Array.replicate ops.size false)=List.range ops.size:=by
   unfold rest;simp_all
  refine any_sound hm0 hN hG hX hseq hok (sf:=s'.fs) (fun a w E hS=>hQ s' a w E hK hS) ops.size _ s.fs a _ E (by simp) (fun i o ho hl=> ?_) (hS.same (Below.refl _ _).drew) (hfi _) (by rw[hrest];exact hrun) (by rw[hrest];simp);have hil:=(gA ho).1;simp_all
end
def opsP(P:Program)(g:Glob)(D:List Nat):List SOper→(Value→ES→Prop)→ES→Prop
 |[],_,_=>False
 |o::l,R,s=>(mayPan o.op=true∧∃z u,PanG P g o s.fs z u∧R z ((s.upd o.dst u).kill D))∨∃C,SoundC P g C∧∃e,effG P C o s.fs=some e∧opsP P g D l R (s.after o e)
theorem runI_of_opsP{P:Program}{g:Glob}{D:List Nat}{sops:List SOper}{R:Value→ES→Prop}:∀{l:List SOper} {j:Nat} {s:ES},sops.drop j=l→opsP P g D l R s→
  ∃(k:Nat) (o:SOper) (sk:ES) (z:Value) (u:Upd),j≤k∧sops[k]?=some o∧mayPan o.op=true∧RunI P g sops (List.range' j (k-j)) s.fs sk.fs∧PanG P g o sk.fs z u∧R z ((sk.upd o.dst u).kill D)
 |[],j,s,_,h=>h.elim
 |o::l,j,s,hd,h=>by
  have hj:sops[j]?=some o:=by
   have:=congrArg (·[0]?) hd
   grind
  rcases h with⟨h1,z,u,h2,h3⟩|⟨C,hC,e,he,h⟩
  ·exact⟨j,o,s,z,u,Nat.le_refl _,hj,h1,by rw[Nat.sub_self];exact rfl,h2,h3⟩
  ·have hd':sops.drop (j+1)=l:=by
    have:=congrArg (List.drop 1) hd
    grind [List.drop_drop,Nat.add_comm]
   obtain⟨k,o',sk,z,u,a1,a2,a3,a4,a5,a6⟩:=runI_of_opsP hd' h;refine⟨k,o',sk,z,u,by omega,a2,a3,?_,a5,a6⟩;have:k-j=(k-(j+1))+1:=by omega
   rw[this,List.range'_succ];exact⟨o,s.fs.after o e,hj,⟨C,hC,by unfold step;rw[he];rfl⟩,by rw[←ES.after_fs];exact a4⟩
theorem kill_t{s:ES}{ks:List Nat}{k:Nat}{x:TV}(h:lk (s.kill ks).t k=some x):k∉ks∧lk s.t k=some x:=by
 unfold ES.kill at h
 grind [lk,drp,lk_drp,has_mem]
theorem kill_bri(s:ES)(ks:List Nat):(s.kill ks).b=s.b∧(s.kill ks).r=s.r∧(s.kill ks).i=s.i:=by
 unfold ES.kill
 grind
def dstOps(l:List SOper):List Nat:=l.filterMap (·.dst)
section
variable{P:Program}{H:Option Nat→Nat}{ops:Array Oper}{B:Base}{sops:List SOper}{g:Glob}{draw:Bool}{id:Nat}
theorem upd_of_eq{s1 sk:FS}(hb:s1.b=sk.b)(hr:s1.r=sk.r)(hi:s1.i=sk.i)(dst:Option Nat)(u:Upd):(s1.upd dst u).b=(sk.upd dst u).b∧(s1.upd dst u).r=(sk.upd dst u).r∧(s1.upd dst u).i=(sk.upd dst u).i:=
 ⟨funext fun d=>by rw[upd_b,upd_b,hb],funext fun d=>by rw[upd_r,upd_r,hr],funext fun d=>by rw[upd_i,upd_i,hi]⟩
theorem region_pan(hmix:P.follows .mixedOrders=true)(hm0:B.m≤1000)(hN:B.N≤1000)(hG:g.G B.w0)(hX:∀d b,B.X d b→g.n≤b){fps:Nat→Option Nat}(htr:z44 P B.N H fps ops draw=some sops)(hpo:draw=true→panOk ops sops=true){s:ES}{R:Value→ES→Prop}
  (hf:∀d∈sops.flatMap SOper.news,Fresh s.fs d) (h:opsP P g (dstOps sops) sops R s) {a:Act} {w:World} {E:Env} (hS:Sim B s.fs a w E) {Q:Exit→Act→World→Prop} (hQ:∀z s' a' w' E',R z s'→Sim B s'.fs a' w' E'→Q (.panic [{ v:=z,recovered:=false }]) a' w'):
  (Code.region id ops draw).wp P Q a w:=by
 unfold z44 at htr;split at htr<;>try(cases htr;done)
 rename_i sops' hseq;split at htr<;>try(cases htr;done)
 rename_i hok;cases htr;obtain⟨k,o,sk,z,u,_,hk,hmay,hrun,hp,hR⟩:=runI_of_opsP (sops:=sops) (l:=sops) (j:=0) rfl h;obtain⟨hlen,hspec⟩:=z81 hseq;have hlen':ops.size=sops.length:=by omega
 have hkn:k<sops.length:=(gJ hk).1;have hfi:∀l,FreshI sops l s.fs:=fun l i _ o ho d hd=>hf d (List.mem_flatMap.2 ⟨o,gM ho,hd⟩);have hmk:=mkAll_of hok;rw[Nat.sub_zero,←List.range_eq_range']at hrun;have fin:∀(s1:FS) a w E,s1.b=sk.fs.b→s1.r=sk.fs.r→s1.i=sk.fs.i→(∀j,(∀o'∈sops,o'.dst≠some j)→s1.t j=sk.fs.t j)→Sim B (s1.upd o.dst u) a w E→Q (.panic [{ v:=z,recovered:=false }]) a w:=by
  intro s1 a w E e1 e2 e3 e4 hS1;refine hQ z _ a w E hR ?_;obtain⟨u1,u2,u3⟩:=upd_of_eq e1 e2 e3 o.dst u;obtain⟨k1,k2,k3⟩:=kill_bri (sk.upd o.dst u) (dstOps sops);have hfs:(sk.upd o.dst u).fs=sk.fs.upd o.dst u:=ES.upd_fs _ _ _;refine hS1.less (fun j x hx=> .inl ?_) (fun d cs hd=>⟨cs,?_,fun j c hc=> .inl hc⟩) (fun d q hd=> ?_) (fun d q hd=> ?_)
  ·obtain⟨h1,h2⟩:=kill_t hx;have h2:(sk.upd o.dst u).fs.t j=some x:=h2;rw[hfs,upd_t]at h2;rw[upd_t,e4 j (fun o' ho' hd=>h1 (List.mem_filterMap.2 ⟨o',ho',hd⟩))];exact h2
  ·have hd:lk ((sk.upd o.dst u).kill (dstOps sops)).b d=some cs:=hd;rw[k1]at hd;have hd:(sk.upd o.dst u).fs.b d=some cs:=hd
   grind
  ·have hd:lk ((sk.upd o.dst u).kill (dstOps sops)).r d=some q:=hd;rw[k2]at hd;have hd:(sk.upd o.dst u).fs.r d=some q:=hd
   grind
  ·have hd:lk ((sk.upd o.dst u).kill (dstOps sops)).i d=some q:=hd;rw[k3]at hd;have hd:(sk.upd o.dst u).fs.i d=some q:=hd
   grind
 cases draw with
 |false=>
  refine wp_region ?_;have key:∀(l:List Nat) (s:FS) (a:Act) (w:World) (E:Env) (r:List Nat),(l++k::r).Nodup→Sim B s a w E→FreshI sops (l++k::r) s→RunI P g sops l s sk.fs→wpOps P ops Q (l++k::r) a w:=by
   intro l
   induction l with
   |nil=>
    intro s a w E r hnd hS hf hr;have hr:s=sk.fs:=hr;subst hr;have hil:k<ops.size:=by omega
    have hoi:ops[k]?=some ops[k]:=Array.getElem?_eq_getElem hil;obtain⟨so,hso,hto⟩:=hspec k ops[k] (by simp[hil]);rw[hk]at hso;cases hso;rw[List.nil_append,wpOps_cons];exact sim_pan hm0 hG hX hS hoi hto (hf k (by simp) o hk) hp (fun w' E' hS'=>fin sk.fs a w' E' rfl rfl rfl (fun _ _=>rfl) hS')
   |cons i l ih=>
    intro s a w E r hnd hS hf hr;obtain⟨oi,s1,ho,⟨C,hC,hst⟩,hr⟩:=hr;have hil:i<ops.size:=by grind
    have hoi:ops[i]?=some ops[i]:=Array.getElem?_eq_getElem hil;obtain⟨so,hso,hto⟩:=hspec i ops[i] (by simp[hil]);rw[ho]at hso;cases hso;rw[List.cons_append]at hnd hf ⊢;rw[wpOps_cons];refine sim_step hm0 hN hG hX hC hS hoi hto (hf i (List.mem_cons_self ..) oi ho) hst (fun a' w' E' hS'=> ?_);exact ih s1 a' w' E' r (List.nodup_cons.1 hnd).2 hS' (z103 hmk ho (List.nodup_cons.1 hnd).1 (fun j hj=>hf j (List.mem_cons_of_mem _ hj)) ⟨C,hC,hst⟩) hr
  have hsplit:List.range ops.size=List.range k++k::List.range' (k+1) (ops.size-(k+1)):=by
   have:ops.size=k+1+(ops.size-(k+1)):=by omega
   conv=>lhs;rw[this]
   rw[List.range_add,List.range_succ,List.append_assoc];congr 1;rw[List.singleton_append,List.range'_eq_map_range]
  grind
 |true=>
  refine wp_region_any hmix ?_;have hrest:rest ops.size (Array.replicate ops.size false)=List.range ops.size:=by
   unfold rest;simp_all
  have hfil:(List.range ops.size).filter (fun i=>decide (i<k))=List.range k:=by
   have:ops.size=k+(ops.size-k):=by omega
   rw[this,List.range_add,List.filter_append,List.filter_eq_self.2 (by intro i hi;simpa using hi),List.filter_eq_nil_iff.2,List.append_nil];simp
  refine any_pan hm0 hN hG hX hseq hok (hpo rfl) hk hmay hp fin ops.size _ s.fs a _ E (by simp) (fun i o ho hl=> ?_) (hS.same (Below.refl _ _).drew) (hfi _) ?_ (by rw[hrest,hfil];exact hrun) (by rw[hrest];simp)
  ·have hil:=(gA ho).1;simp_all
  ·simp_all
end
inductive SCode where
 |skip
 |regq (alts:List (List Nat×List SOper)) (kill:List Nat)
 |raw (N:Nat) (c:Code)
 |reg (alts:List (List Nat×List SOper)) (kill:List Nat)
 |seq (a b:SCode)
 |cond (c:Arg) (a b:SCode)
 |block (id:Nat) (a:SCode)
 |loop (a:SCode)
 |exit (id:Nat)
 |ret
inductive SExit where
 |normal
 |exit (id:Nat)
 |ret
 |pan (z:Value)
def SExit.to:SExit→Exit
 | .normal=> .normal
 | .exit id=> .exit id
 | .ret=> .ret
 | .pan z=> .panic [{ v:=z,recovered:=false }]
def hasApp(ops:Array Oper):Bool:=ops.any fun o=>match o.op with| .call { callee:=.builtin .append, .. }=>true|_=>false
def z130(P:Program)(N:Nat)(ops:Array Oper)(draw:Bool):List ((Option Nat→Nat)×(Nat→Option Nat))→List (List Nat×List SOper)
 |[]=>[]
 |H::r=>match z44 P N H.1 H.2 ops draw with
  |some l=>(l.flatMap SOper.news,l)::z130 P N ops draw r
  |none=>z130 P N ops draw r
def z144(P:Program)(N:Nat)(ops:Array Oper)(draw:Bool):List ((Option Nat→Nat)×(Nat→Option Nat))→List (List Nat×List SOper)
 |[]=>[]
 |H::r=>match z44 P N H.1 H.2 ops draw with
  |some l=>if !draw||panOk ops l then(l.flatMap SOper.news,l)::z144 P N ops draw r else z144 P N ops draw r
  |none=>z144 P N ops draw r
def altsOf(H:Nat→Option Nat→Nat)(Fs:List (Nat→Option Nat))(app:Bool):List ((Option Nat→Nat)×(Nat→Option Nat)):=
 Fs.flatMap fun F=>if app then [(H 0,F),(H 1,F)] else [(H 0,F)]
def z15(P:Program)(N:Nat)(H:Nat→Option Nat→Nat)(Fp:Nat→List (Nat→Option Nat))(K:Nat→List Nat):Code→Option SCode
 | .skip=>some .skip
 | .region id ops draw=>match has (K id) 9999 with
  |true=>some (.regq (z144 P N ops draw (altsOf H (Fp id) (hasApp ops))) (K id))
  |false=>match has (K id) 9998 with
   |true=>some (.raw N (.region id ops draw))
   |false=>some (.reg (z130 P N ops draw (altsOf H (Fp id) (hasApp ops))) (K id))
 | .rangeFunc a b c d=>some (.raw N (.rangeFunc a b c d))
 | .seq a b=>match z15 P N H Fp K a,z15 P N H Fp K b with
  |some a',some b'=>some (.seq a' b')
  |_,_=>none
 | .cond c a b=>match z15 P N H Fp K a,z15 P N H Fp K b with
  |some a',some b'=>some (.cond (Arg.of c) a' b')
  |_,_=>none
 | .block id a=>(z15 P N H Fp K a).map (.block id)
 | .loop a=>(z15 P N H Fp K a).map .loop
 | .exit id=>some (.exit id)
 | .ret=>some .ret
 |_=>none
def leL{α:Type}:List (Nat×α)→List (Nat×α)→Prop
 |[],_=>True
 |(k,x)::r,l=>lk l k=some x∧leL r l
structure ES.Le(s0 s:ES):Prop where
 t:∀k x,lk s0.t k=some x→lk s.t k=some x
 b:∀k x,lk s0.b k=some x→lk s.b k=some x
 r:∀k x,lk s0.r k=some x→lk s.r k=some x
 i:∀k x,lk s0.i k=some x→lk s.i k=some x
theorem ES.Le.refl(s:ES):s.Le s:=⟨fun _ _ h=>h,fun _ _ h=>h,fun _ _ h=>h,fun _ _ h=>h⟩
theorem leL_lk{α:Type}{l:List (Nat×α)}:∀{l0:List (Nat×α)},leL l0 l→∀{k:Nat} {x:α},lk l0 k=some x→lk l k=some x
 |[],_,k,x,h=>by simp[lk]at h
 |(j,y)::r,⟨h1,h2⟩,k,x,h=>by
  simp only[lk]at h;split at h
  ·simp_all
  ·exact leL_lk h2 h
theorem le_of{s0 s:ES}(h1:leL s0.t s.t)(h2:leL s0.b s.b)(h3:leL s0.r s.r)(h4:leL s0.i s.i):s0.Le s:=⟨fun _ _ h=>leL_lk h1 h,fun _ _ h=>leL_lk h2 h,fun _ _ h=>leL_lk h3 h,fun _ _ h=>leL_lk h4 h⟩
theorem le_sound{B:Base}{s0 s:ES}{a:Act}{w:World}{E:Env}(hle:s0.Le s)(h:Sim B s.fs a w E):Sim B s0.fs a w E:=
 h.less (fun k x hx=> .inl (hle.t k x hx)) (fun d cs hd=>⟨cs,hle.b d cs hd,fun j c hc=> .inl hc⟩) (fun d q hd=>hle.r d q hd) (fun d q hd=>hle.i d q hd)
def ES.Lw(s0 s:ES):Prop:=∀(B:Base) (a:Act) (w:World) (E:Env),B.m≤1000→B.N≤1000→Sim B s.fs a w E→∃E',Sim B s0.fs a w E'
theorem ES.Lw.refl(s:ES):s.Lw s:=fun _ _ _ E _ _ h=>⟨E,h⟩
theorem ES.Lw.trans{a b c:ES}(h1:a.Lw b)(h2:b.Lw c):a.Lw c:=fun B x w E hm hn h=>by
 obtain⟨E1,h3⟩:=h2 B x w E hm hn h;exact h1 B x w E1 hm hn h3
theorem ES.Le.lw{s0 s:ES}(h:s0.Le s):s0.Lw s:=fun _ _ _ E _ _ hS=>⟨E,le_sound h hS⟩
def regW(P:Program)(g:Glob)(alts:List (List Nat×List SOper))(kill:List Nat)(K:ES→Prop)(s:ES):Prop:=
 ∃a∈alts,opsW P g a.2 (fun s'=>K (s'.kill kill)) (s.fgt a.1)
def condW(c:Arg)(s:ES)(A B:Prop):Prop:=∃t,c.get s.fs=some (.pv (.v (.bool t)))∧(if t then A else B)
def thenW(K:ES→Prop)(Q:SExit→ES→Prop):SExit→ES→Prop
 | .normal,s=>K s
 |e,s=>Q e s
def blockW(id:Nat)(Q:SExit→ES→Prop):SExit→ES→Prop
 | .exit j,s=>if j=id then Q .normal s else Q (.exit j) s
 |e,s=>Q e s
def regP(P:Program)(g:Glob)(alts:List (List Nat×List SOper))(Q:SExit→ES→Prop)(s:ES):Prop:=
 ∃a∈alts,opsP P g (dstOps a.2) a.2 (fun z s'=>Q (.pan z) s') (s.fgt a.1)
def RawW(P:Program)(g:Glob)(N:Nat)(c:Code)(Q:SExit→ES→Prop)(s:ES):Prop:=
 ∀(B:Base) (a:Act) (w:World) (E:Env),B.N=N→B.m≤1000→B.N≤1000→g.G B.w0→(∀d b,B.X d b→g.n≤b)→Sim B s.fs a w E→
  c.wp P (fun x a' w'=>∃e s' E',x=SExit.to e∧Q e s'∧Sim B s'.fs a' w' E') a w
def swp(P:Program)(g:Glob):SCode→(SExit→ES→Prop)→ES→Prop
 | .skip,Q,s=>Q .normal s
 | .reg alts kill,Q,s=>regW P g alts kill (Q .normal) s
 | .regq alts kill,Q,s=>regW P g alts kill (Q .normal) s∨regP P g alts Q s
 | .raw N c,Q,s=>RawW P g N c Q s
 | .seq a b,Q,s=>swp P g a (thenW (swp P g b Q) Q) s
 | .cond c a b,Q,s=>condW c s (swp P g a Q s) (swp P g b Q s)
 | .block id a,Q,s=>swp P g a (blockW id Q) s
 | .loop a,Q,s=>∃(I:Nat→ES→Prop) (n:Nat),(∃s0,s0.Lw s∧I n s0)∧∀n s,I n s→swp P g a (thenW (fun s'=>∃m,m<n∧∃s0,s0.Lw s'∧I m s0) Q) s
 | .exit id,Q,s=>Q (.exit id) s
 | .ret,Q,s=>Q .ret s
theorem opsP_mono{P:Program}{g:Glob}{D:List Nat}{R R':Value→ES→Prop}(hq:∀z s,R z s→R' z s):∀(l:List SOper) (s:ES),opsP P g D l R s→opsP P g D l R' s
 |[],_,h=>h
 |o::l,s,h=>by
  rcases h with⟨h1,z,u,h2,h3⟩|⟨C,hC,e,he,h⟩
  ·exact .inl ⟨h1,z,u,h2,hq _ _ h3⟩
  ·exact .inr ⟨C,hC,e,he,opsP_mono hq l _ h⟩
theorem regW_mono{P:Program}{g:Glob}{alts:List (List Nat×List SOper)}{kill:List Nat}{K K':ES→Prop}{s:ES}(hq:∀s,K s→K' s)(h:regW P g alts kill K s):regW P g alts kill K' s:=by
 obtain⟨a,ha,h⟩:=h;refine⟨a,ha,?_⟩;have key:∀(l:List SOper) (s:ES),opsW P g l (fun s'=>K (s'.kill kill)) s→opsW P g l (fun s'=>K' (s'.kill kill)) s:=by
  intro l
  induction l with
  |nil=>exact fun s h=>hq _ h
  |cons o l ih=>rintro s ⟨C,hC,e,he,h⟩;exact⟨C,hC,e,he,ih _ h⟩
 grind
theorem z63{P:Program}{g:Glob}:∀{c:SCode} {Q Q':SExit→ES→Prop} {s:ES},swp P g c Q s→(∀e s,Q e s→Q' e s)→swp P g c Q' s
 | .skip,Q,Q',s,h,hq=>hq _ _ h
 | .reg alts kill,Q,Q',s,h,hq=>regW_mono (fun _ h=>hq _ _ h) h
 | .regq alts kill,Q,Q',s,h,hq=>by
  rcases h with h|⟨a,ha,h⟩
  ·exact .inl (regW_mono (fun _ h=>hq _ _ h) h)
  ·exact .inr ⟨a,ha,opsP_mono (fun _ _ h=>hq _ _ h) _ _ h⟩
 | .raw N c,Q,Q',s,h,hq=>fun B a w E e1 e2 e3 e4 e5 e6=>wp_mono (h B a w E e1 e2 e3 e4 e5 e6) (by
  rintro x a' w' ⟨e,s',E',h1,h2,h3⟩;exact⟨e,s',E',h1,hq _ _ h2,h3⟩)
 | .seq a b,Q,Q',s,h,hq=>z63 (c:=a) h fun e s he=>by
  cases e with
  |normal=>exact z63 (c:=b) he hq
  |exit id=>exact hq _ _ he
  |ret=>exact hq _ _ he
  |pan z=>exact hq _ _ he
 | .cond c a b,Q,Q',s,h,hq=>by
  obtain⟨t,h1,h2⟩:=h;refine⟨t,h1,?_⟩;cases t with
  |true=>exact z63 (c:=a) h2 hq
  |false=>exact z63 (c:=b) h2 hq
 | .block id a,Q,Q',s,h,hq=>z63 (c:=a) h fun e s he=>by
  cases e with
  |exit j=>simp only[blockW]at he ⊢;split at he<;>rename_i hj<;>simp[hj,hq _ _ he]
  |normal=>exact hq _ _ he
  |ret=>exact hq _ _ he
  |pan z=>exact hq _ _ he
 | .loop a,Q,Q',s,h,hq=>by
  obtain⟨I,n,h0,h1⟩:=h;refine⟨I,n,h0,fun n s hI=>z63 (c:=a) (h1 n s hI) fun e s he=> ?_⟩;cases e with
  |normal=>exact he
  |exit id=>exact hq _ _ he
  |ret=>exact hq _ _ he
  |pan z=>exact hq _ _ he
 | .exit id,Q,Q',s,h,hq=>hq _ _ h
 | .ret,Q,Q',s,h,hq=>hq _ _ h
theorem least{p:Nat→Prop}(h:∃n,p n):∃n,p n∧∀m,p m→n≤m:=by
 obtain⟨n,hn⟩:=h
 induction n using Nat.strongRecOn with
 |_ n ih=>
  grind
open Classical in
noncomputable def leastOf(p:Act→World→Nat→Prop)(a:Act)(w:World):Nat:=if h:∃n,p a w n then Classical.choose (least h)else 0
theorem leastOf_spec{p:Act→World→Nat→Prop}{a:Act}{w:World}(h:∃n,p a w n):p a w (leastOf p a w)∧∀m,p a w m→leastOf p a w≤m:=by
 grind [leastOf,least]
section
variable{P:Program}{H:Nat→Option Nat→Nat}{Fp:Nat→List (Nat→Option Nat)}{K:Nat→List Nat}{B:Base}{g:Glob}
theorem z48(hmix:P.follows .mixedOrders=true)(hm0:B.m≤1000)(hN:B.N≤1000)(hG:g.G B.w0)(hX:∀d b,B.X d b→g.n≤b):∀{c:Code} {sc:SCode},z15 P B.N H Fp K c=some sc→∀{Q:SExit→ES→Prop} {s:ES},swp P g sc Q s→∀{a:Act} {w:World} {E:Env},Sim B s.fs a w E→
  c.wp P (fun x a' w'=>∃e s' E',x=SExit.to e∧Q e s'∧Sim B s'.fs a' w' E') a w:=by
 intro c
 induction c with
 |skip=>
  intro sc h Q s hs a w E hS;simp only[z15]at h;cases h;exact wp_skip ⟨.normal,s,E,rfl,hs,hS⟩
 |exit id=>
  intro sc h Q s hs a w E hS;simp only[z15]at h;cases h;exact wp_exit ⟨.exit id,s,E,rfl,hs,hS⟩
 |ret=>
  intro sc h Q s hs a w E hS;simp only[z15]at h;cases h;exact wp_ret ⟨.ret,s,E,rfl,hs,hS⟩
 |region id ops draw=>
  intro sc h Q s hs a w E hS;simp only[z15]at h;split at h
  ·
   cases h;have key:∀(Hs:List ((Option Nat→Nat)×(Nat→Option Nat))) (al:List Nat×List SOper),al∈z144 P B.N ops draw Hs→∃H,∃F:Nat→Option Nat,z44 P B.N H F ops draw=some al.2∧al.1=al.2.flatMap SOper.news∧(draw=true→panOk ops al.2=true):=by
    intro Hs
    induction Hs<;>grind [z144,only]
   rcases hs with⟨al,hal,hs⟩|⟨al,hal,hs⟩
   ·obtain⟨H',F',htr,hn,_⟩:=key _ al hal;refine region_sound hmix hm0 hN hG hX htr (s:=s.fgt al.1) (fun d hd=>z64 s (by rw[hn];exact hd)) hs (z84 hS al.1) (fun s' a' w' E' hK hS'=>⟨.normal,s'.kill _,E',rfl,hK,z186 hS' _⟩)
   ·obtain⟨H',F',htr,hn,hpo⟩:=key _ al hal;exact region_pan hmix hm0 hN hG hX htr hpo (s:=s.fgt al.1) (fun d hd=>z64 s (by rw[hn];exact hd)) hs (z84 hS al.1) (fun z s' a' w' E' hR hS'=>⟨.pan z,s',E',rfl,hR,hS'⟩)
  ·split at h
   ·cases h;exact hs B a w E rfl hm0 hN hG hX hS
   cases h;obtain⟨al,hal,hs⟩:=hs;have key:∀(Hs:List ((Option Nat→Nat)×(Nat→Option Nat))),al∈z130 P B.N ops draw Hs→∃H,∃F:Nat→Option Nat,z44 P B.N H F ops draw=some al.2∧al.1=al.2.flatMap SOper.news:=by
    intro Hs
    induction Hs<;>grind [z130,only]
   obtain⟨H',F',htr,hn⟩:=key _ hal;refine region_sound hmix hm0 hN hG hX htr (s:=s.fgt al.1) (fun d hd=>z64 s (by rw[hn];exact hd)) hs (z84 hS al.1) (fun s' a' w' E' hK hS'=>⟨.normal,s'.kill _,E',rfl,hK,z186 hS' _⟩)
 |seq a b iha ihb=>
  intro sc h Q s hs ac w E hS;simp only[z15]at h;split at h<;>try(cases h;done)
  rename_i a' b' ha hb;cases h;refine wp_seq (wp_mono (iha ha hs hS) ?_);rintro x a2 w2 ⟨e,s2,E2,rfl,hq,hS2⟩;cases e with
  |normal=>exact ihb hb hq hS2
  |exit id=>exact⟨.exit id,s2,E2,rfl,hq,hS2⟩
  |ret=>exact⟨.ret,s2,E2,rfl,hq,hS2⟩
  |pan z=>exact⟨.pan z,s2,E2,rfl,hq,hS2⟩
 |cond cnd a b iha ihb=>
  intro sc h Q s hs ac w E hS;simp only[z15]at h;split at h<;>try(cases h;done)
  rename_i a' b' ha hb;cases h;obtain⟨t,h1,h2⟩:=hs;have hv:=val_rel (y:=.bool t) (z17 hS h1) rfl;refine wp_cond hv ?_
  grind
 |block id a ih=>
  intro sc h Q s hs ac w E hS;simp only[z15]at h;obtain⟨a',ha,rfl⟩:=gO h;refine wp_block (wp_mono (ih ha hs hS) ?_);rintro x a2 w2 ⟨e,s2,E2,rfl,hq,hS2⟩;cases e with
  |normal=>exact⟨.normal,s2,E2,rfl,hq,hS2⟩
  |ret=>exact⟨.ret,s2,E2,rfl,hq,hS2⟩
  |pan z=>exact⟨.pan z,s2,E2,rfl,hq,hS2⟩
  |exit j=>
   simp only[SExit.to,Exit.inBlock]
   grind [only,blockW]
 |loop a ih=>
  intro sc h Q s hs ac w E hS;simp only[z15]at h;obtain⟨a',ha,rfl⟩:=gO h;obtain⟨I,n,⟨s0,hle,h0⟩,hround⟩:=hs;obtain⟨E0,hS0⟩:=hle B ac w E hm0 hN hS;have hex:∃n,∃s E,I n s∧Sim B s.fs ac w E:=⟨n,s0,E0,h0,hS0⟩
  let J:Act→World→Prop:=fun a w=>∃n s E,I n s∧Sim B s.fs a w E
  refine wp_loop J (leastOf fun a w n=>∃s E,I n s∧Sim B s.fs a w E) hex (fun a1 w1 hJ=> ?_);obtain⟨⟨s1,E1,hI1,hS1⟩,_⟩:=leastOf_spec (p:=fun a w n=>∃s E,I n s∧Sim B s.fs a w E) hJ;refine wp_mono (ih ha (hround _ s1 hI1) hS1) ?_;rintro x a2 w2 ⟨e,s2,E2,rfl,hq,hS2⟩;cases e with
  |normal=>
   obtain⟨m,hm,s3,hle,hI2⟩:=hq;obtain⟨E3,hS3⟩:=hle B a2 w2 E2 hm0 hN hS2;have hJ2:∃n,∃s E,I n s∧Sim B s.fs a2 w2 E:=⟨m,s3,E3,hI2,hS3⟩
   exact⟨hJ2,Nat.lt_of_le_of_lt ((leastOf_spec (p:=fun a w n=>∃s E,I n s∧Sim B s.fs a w E) hJ2).2 m ⟨s3,E3,hI2,hS3⟩) hm⟩
  |exit id=>exact⟨.exit id,s2,E2,rfl,hq,hS2⟩
  |ret=>exact⟨.ret,s2,E2,rfl,hq,hS2⟩
  |pan z=>exact⟨.pan z,s2,E2,rfl,hq,hS2⟩
 |rangeFunc x y c d ih1 ih2=>
  intro sc h Q s hs ac w E hS;simp only[z15]at h;cases h;exact hs B ac w E rfl hm0 hN hG hX hS
 |_=>grind [z15]
def SemW(P:Program)(g:Glob)(N:Nat)(c:SCode)(Q:SExit→ES→Prop)(s:ES):Prop:=
 ∀(H:Nat→Option Nat→Nat) (Fp:Nat→List (Nat→Option Nat)) (K:Nat→List Nat) (code:Code),z15 P N H Fp K code=some c→RawW P g N code Q s
theorem sem_swp{N:Nat}{c:SCode}{Q:SExit→ES→Prop}{s:ES}(hmix:P.follows .mixedOrders=true)(h:swp P g c Q s):SemW P g N c Q s:=by
 intro H Fp K code ht B a w E hN hm hn hG hX hS;subst hN;exact z48 hmix hm hn hG hX ht h hS
end
end
end Go.Sh
end
