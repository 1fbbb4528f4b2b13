/- Merged texts: S12. No statement of the program is proved here. -/
import Derived.Test.YtpmlapgbmgbilaaGreatDoorR7
set_option linter.unusedSimpArgs false
set_option linter.unusedVariables false
set_option maxRecDepth 100000
set_option maxHeartbeats 8000000
section
namespace Go.Sh
open Go Go.RowKit
section
structure SOper where
 dst:Option Nat
 guard:Option (Nat×Bool)
 fp:Option Nat
 op:SOp
def z6c(xs:List Arg):List Nat:=xs.flatMap Arg.reads
def zg1(x:Option Arg):List Nat:=match x with|some x=>x.reads|none=>[]
def SOp.reads:SOp→List Nat
 | .mov x| .un _ x| .cvi _ x| .cvs x| .b2s x| .slen x| .box x| .fld _ _ _ x| .fldA _ x| .ld _ _ x| .len x| .ext x _| .nchk x| .rng x| .nxt x| .mks _ _ _ x| .mkI _ x| .pan x| .fnil _ x=>x.reads
 | .pick c a b=>c.reads++a.reads++b.reads
 | .bin _ _ x y| .imm _ x y| .sidx x y| .st _ x y| .idxA _ x y| .app _ _ _ x y| .appS _ _ x y| .appN _ _ _ x y| .appB _ _ _ x y| .appNS _ _ x y| .lkp _ _ x y=>x.reads++y.reads
 | .bsl _ xs| .bslO _ _ xs| .bslB _ xs| .call _ _ xs=>z6c xs
 | .callv x _ xs=>x.reads++z6c xs
 | .mkf _ a b=>z6c a++z6c b
 | .ssub x lo hi| .sub _ x lo hi=>x.reads++zg1 lo++zg1 hi
 | .new _| .bad| .mkm| .bsl0 _=>[]
 | .build _ ps=>z6c (ps.map (·.2.2))
def SOper.reads(o:SOper):List Nat:=(match o.guard with|some (g,_)=>[g]|none=>[])++o.op.reads
def SOp.rb:SOp→Bool
 | .ld .. | .st .. =>true
 | .call _ m _| .callv _ m _=> !Nat.beq m 0
 |_=>false
def SOp.wb:SOp→Bool
 | .st .. =>true
 | .call _ m _| .callv _ m _=> !Nat.beq m 0
 |_=>false
def SOp.wr:SOp→Bool
 | .app .. | .appS .. =>true
 | .call _ m _| .callv _ m _=> !Nat.beq m 0
 |_=>false
def SOp.wi:SOp→Bool
 | .nxt .. =>true
 |_=>false
def only:List Nat→Option Nat
 |[d]=>some d
 |_=>none
theorem zqg{I:List Nat}{k:Nat}(h:only I=some k):I=[k]:=by
 unfold only at h;split at h
 ·grind
 ·cases h
def SOp.foot(s:FS):SOp→Option Nat
 | .ld _ _ x=>match x.get s with|some (.ptr d _)=>some d|some (.pv (.el _))=>some 999|_=>none
 | .st _ x _=>match x.get s with|some (.ptr d _)=>some d|_=>none
 | .call _ m xs=>match seqO (fun x:Arg=>x.get s) xs with
  |some args=>only (handI s m args)
  |none=>none
 |_=>none
theorem zdv{s:FS}{f m:Nat}{xs:List Arg}{args:List TV}(hx:seqO (fun x:Arg=>x.get s) xs=some args){k:Nat}(h:SOp.foot s (.call f m xs)=some k):handI s m args=[k]:=by
 grind [only,SOp.foot,zqg]
theorem ztb{o:SOp}(h:o.wb=true):o.rb=true:=by cases o<;>first|exact h|cases h|rfl
section
variable{P:Program}{C:z0m}{s s':FS}{dst:Option Nat}{d:Nat}
theorem z08{x:Arg}(h:∀k∈x.reads,s'.t k=s.t k):x.get s'=x.get s:=by
 cases x with
 |tmp t=>exact h t (by simp[Arg.reads])
 |val v=>rfl
theorem zj4{α:Type}{xs:List Arg}(h:∀k∈z6c xs,s'.t k=s.t k)(f:TV→Option α):seqO (fun x:Arg=>(x.get s').bind f) xs=seqO (fun x:Arg=>(x.get s).bind f) xs:=
 z3I fun x hx=>by rw[z08 fun k hk=>h k (List.mem_flatMap.2 ⟨x,hx,hk⟩)]
theorem z3B{xs:List Arg}(h:∀k∈z6c xs,s'.t k=s.t k):seqO (fun x:Arg=>x.get s') xs=seqO (fun x:Arg=>x.get s) xs:=
 z3I fun x hx=>z08 fun k hk=>h k (List.mem_flatMap.2 ⟨x,hx,hk⟩)
theorem zad{x:Option Arg}(h:∀k∈zg1 x,s'.t k=s.t k)(n:Nat):bound s' n x=bound s n x:=by
 cases x with
 |none=>rfl
 |some x=>simp only[bound];rw[z08 h]
theorem z3G{s:FS}{rows:Bool}:∀(n:Nat) (l seen:List Nat),∀x∈seen,x∈zx s rows n l seen
 |0,_,_,x,hx=>by simp only[zx];exact hx
 |n+1,[],_,x,hx=>by simp only[zx];exact hx
 |n+1,d::l,seen,x,hx=>by
  simp only[zx];split
  ·exact z3G n _ _ x hx
  ·split
   ·exact z3G n _ _ x (List.mem_append_left _ hx)
   ·split
    ·exact z3G n _ _ x (List.mem_append_left _ hx)
    ·exact z3G n _ _ x hx
theorem z31{rows:Bool}{R:List Nat}(hb:∀d,s.ment d→d∈R→s'.b d=s.b d)(hb2:∀d,s.ment d→(s'.b d=none ↔ s.b d=none))(hr:∀d,s.ment d→s'.r d=s.r d):∀(n:Nat) (l seen:List Nat),(∀d∈l,s.ment d)→((∀d∈zx s rows n l seen,d∈R)∨(∀d∈zx s' rows n l seen,d∈R))→zx s' rows n l seen=zx s rows n l seen
 |0,_,_,_,_=>by simp only[zx]
 |n+1,[],_,_,_=>by simp only[zx]
 |n+1,d::l,seen,h,hR=>by
  have hd:=h d (List.mem_cons_self ..);have hl:∀x∈l,s.ment x:=fun x hx=>h x (List.mem_cons_of_mem _ hx);simp only[zx,hr d hd]at hR;simp only[zx,hr d hd];cases hp:pos seen d with
  |some j=>rw[hp]at hR;exact z31 hb hb2 hr n l seen hl hR
  |none=>
   rw[hp]at hR;cases hs:s.b d with
   |some cs=>
    rw[hs]at hR;obtain⟨cs',hs'⟩:∃cs',s'.b d=some cs':=by
     cases hc:s'.b d<;>grind
    rw[hs']at hR;simp only at hR;have hdR:d∈R:=hR.elim (fun h=>h d (z3G _ _ _ d (by simp))) (fun h=>h d (z3G _ _ _ d (by simp)));have he:=hb d hd hdR;rw[hs,hs']at he;cases he;rw[hs'];refine z31 hb hb2 hr n _ _ (fun x hx=> ?_) hR;rcases List.mem_append.1 hx with hx|hx
    ·obtain⟨c,hc,hx⟩:=List.mem_flatMap.1 hx;exact .inr ⟨d,cs,c,hs,hc,z6u hx⟩
    ·grind
   |none=>
    have hs':=(hb2 d hd).2 hs;rw[hs,hs']at hR;rw[hs'];simp only at hR ⊢;cases hq:s.r d with
    |none=>rw[hq]at hR;simp only at hR ⊢;exact z31 hb hb2 hr n l seen hl hR
    |some q=>
     rw[hq]at hR;cases rows with
     |true=>simp only at hR ⊢;exact z31 hb hb2 hr n l _ hl hR
     |false=>simp only at hR ⊢;exact z31 hb hb2 hr n l seen hl hR
theorem z8g{k f mode:Nat}{xs:List TV}(hm:∀x∈xs,∀d,Ment d x→s.ment d)(hb:(!Nat.beq mode 0)=true→∀d,s.ment d→d∈handI s mode xs→s'.b d=s.b d)(hb2:(!Nat.beq mode 0)=true→∀d,s.ment d→(s'.b d=none ↔ s.b d=none))(hr:(!Nat.beq mode 0)=true→∀d,s.ment d→s'.r d=s.r d):z2K C s' k f mode xs=z2K C s k f mode xs:=by
 unfold z2K;cases h0:Nat.beq mode 0 with
 |true=>simp[seqO]
 |false=>
  simp only[h0,Bool.not_false,forall_const,handI,Bool.false_eq_true,if_false]at hb hb2 hr;have hids:∀d∈xs.flatMap TV.ids2,s.ment d:=fun d hd=>by
   obtain⟨x,hx,hd⟩:=List.mem_flatMap.1 hd;exact hm x hx d (z8F hd)
  have e1:=z31 (rows:=Nat.beq mode 2) hb hb2 hr 64 (xs.flatMap TV.ids2) [] hids (.inl fun _ h=>h);have e2:=(z32 (s:=s) (rows:=Nat.beq mode 2) 64 (xs.flatMap TV.ids2) [] (by simp) (by simp) hids).2;simp only[Bool.false_eq_true,if_false,e1];have e3:seqO (fun d=>(s'.mo d).bind (MO.ren (rhoIn (zx s (Nat.beq mode 2) 64 (xs.flatMap TV.ids2) [])))) (zx s (Nat.beq mode 2) 64 (xs.flatMap TV.ids2) [])=seqO (fun d=>(s.mo d).bind (MO.ren (rhoIn (zx s (Nat.beq mode 2) 64 (xs.flatMap TV.ids2) [])))) (zx s (Nat.beq mode 2) 64 (xs.flatMap TV.ids2) []):=
   z3I fun x hx=>by unfold FS.mo;rw[hb x (e2 x hx) hx,hr x (e2 x hx)]
  rw[e3]
theorem z6i{xs:List Arg}{ts:List TV}(h:seqO (fun x:Arg=>x.get s) xs=some ts):∀x∈ts,∀d,Ment d x→s.ment d:=by
 intro x hx d hd;obtain⟨l1,h1⟩:=z00 h;obtain⟨j,hj⟩:=List.getElem?_of_mem hx;have hjl:j<xs.length:=by grind
 obtain⟨y,hy1,hy2⟩:=h1 j xs[j] (gE hjl)
 grind [zZ]
theorem zgK{t:TV}{f:Nat}{fa fb:List TV}(ht:t.callee=some (f,fa,fb)):∀x,(x∈fa∨x∈fb)→∀d,Ment d x→Ment d t:=by
 unfold TV.callee at ht;split at ht
 ·cases ht;exact fun x hx d hd=>hx.elim (fun hx=> .fn1 hx hd) (fun hx=> .fn2 hx hd)
 ·cases ht;intro x hx d hd;rcases hx with hx|hx
  ·obtain⟨p,_,rfl⟩:=List.mem_map.1 hx;cases hd
  ·obtain⟨p,_,rfl⟩:=List.mem_map.1 hx;cases hd
 ·grind
 ·cases ht
theorem zbx{x:Arg}{t:TV}{f:Nat}{fa fb vs:List TV}{xs:List Arg}(h1:(x.get s).bind TV.callee=some (f,fa,fb))(h2:seqO (fun x:Arg=>x.get s) xs=some vs):∀y∈fa++vs++fb,∀d,Ment d y→s.ment d:=by
 grind [Option.bind_eq_some_iff,zZ,zgK,z6i]
theorem zkU{o:SOp}(h:∀k∈o.reads,s'.t k=s.t k)(hb:o.rb=true→∀d,s.ment d→(∀k,o.foot s=some k→d=k)→s'.b d=s.b d)(hb2:o.rb=true→∀d,s.ment d→(s'.b d=none ↔ s.b d=none))(hr:o.wr=true→∀d,s.ment d→s'.r d=s.r d)(hi:o.wi=true→∀d,s.ment d→s'.i d=s.i d):eff P C dst o s'=eff P C dst o s:=by
 cases o with
 |mov x|un _ x|cvi _ x|cvs x|b2s x|slen x|box x|fld _ _ _ x|fldA _ x|len x|ext x _|nchk x|rng x|mks _ _ _ x|mkI _ x|fnil _ x=>simp only[eff,z08 (x:=x) h]
 |pan x=>rfl
 |bad=>rfl
 |mkm=>rfl
 |bsl0 W=>rfl
 |pick c a b=>
  simp only[SOp.reads,List.mem_append]at h;have e1:=z08 (x:=c) fun k hk=>h k (.inl (.inl hk));have e2:=z08 (x:=a) fun k hk=>h k (.inl (.inr hk));have e3:=z08 (x:=b) fun k hk=>h k (.inr hk);simp only[eff,e1]
  grind
 |bin _ _ x y|imm _ x y|sidx x y|idxA _ x y|appN _ _ _ x y|appB _ _ _ x y|appNS _ _ x y|lkp _ _ x y=>
  simp only[SOp.reads,List.mem_append]at h;have e1:=z08 (x:=x) fun k hk=>h k (.inl hk);have e2:=z08 (x:=y) fun k hk=>h k (.inr hk);simp only[eff,e1,e2]
 |bsl _ xs|bslO _ _ xs|bslB _ xs=>simp only[eff,zj4 h]
 |mkf _ a b=>
  simp only[SOp.reads,List.mem_append]at h;simp only[eff,z3B (xs:=a) fun k hk=>h k (.inl hk),z3B (xs:=b) fun k hk=>h k (.inr hk)]
 |call f m xs=>
  simp only[eff,z3B (xs:=xs) h];cases hx:seqO (fun x:Arg=>x.get s) xs with
  |none=>simp
  |some vs=>simp only[Option.bind_some];exact z8g (z6i hx) (fun h0 d hd hdI=>hb h0 d hd (fun k hk=>by rw[zdv hx hk]at hdI;simpa using hdI)) hb2 hr
 |callv x m xs=>
  simp only[SOp.reads,List.mem_append]at h;have e1:=z08 (x:=x) fun k hk=>h k (.inl hk);simp only[eff,e1,z3B (xs:=xs) fun k hk=>h k (.inr hk)];split
  ·rename_i f fa fb vs h1 h2;exact z8g (zbx (t:=.unk) h1 h2) (fun h0 d hd _=>hb h0 d hd (fun k hk=>by cases hk)) hb2 hr
  ·rfl
 |ssub x lo up|sub _ x lo up=>
  simp only[SOp.reads,List.mem_append]at h;have e1:=z08 (x:=x) fun k hk=>h k (.inl (.inl hk));simp only[eff,e1,zad (x:=lo) fun k hk=>h k (.inl (.inr hk)),zad (x:=up) fun k hk=>h k (.inr hk)]
 |new _=>rfl
 |build z ps=>
  have:partsT s' ps=partsT s ps:=z3I fun p hp=>by
   rw[z08 fun k hk=>h k (List.mem_flatMap.2 ⟨p.2.2,List.mem_map.2 ⟨p,hp,rfl⟩,hk⟩)]
  simp only[eff,this]
 |ld a n x=>
  have e1:=z08 (x:=x) h;simp only[eff,e1];split
  ·rename_i d off hx;rw[hb rfl d (zZ hx (.ptr _)) (fun k hk=>by simp only[SOp.foot,hx]at hk;exact Option.some.inj hk)]
  ·rfl
  ·rfl
 |st n x y=>
  simp only[SOp.reads,List.mem_append]at h;have e1:=z08 (x:=x) fun k hk=>h k (.inl hk);have e2:=z08 (x:=y) fun k hk=>h k (.inr hk);simp only[eff,e1,e2];split
  ·rename_i d off hx;rw[hb rfl d (zZ hx (.ptr _)) (fun k hk=>by simp only[SOp.foot,hx]at hk;exact Option.some.inj hk)]
  ·rfl
 |nxt x=>
  have e1:=z08 (x:=x) h;simp only[eff,e1];split
  ·rename_i d hx;rw[hi rfl d (zZ hx .it)]
  ·rfl
 |app e W b x y=>
  simp only[SOp.reads,List.mem_append]at h;have e1:=z08 (x:=x) fun k hk=>h k (.inl hk);have e2:=z08 (x:=y) fun k hk=>h k (.inr hk);simp only[eff,e1,e2];split
  ·rename_i d W' es es2 hx _;rw[hr rfl d (zZ hx (.own _ _))]
  ·rfl
 |appS e b x y=>
  simp only[SOp.reads,List.mem_append]at h;have e1:=z08 (x:=x) fun k hk=>h k (.inl hk);have e2:=z08 (x:=y) fun k hk=>h k (.inr hk);simp only[eff,e1,e2];split
  ·rename_i d W' es es2 hx _;rw[hr rfl d (zZ hx (.own _ _))]
  ·rfl
def ovB(dst:Option Nat):Upd→Nat→Option (List TV)
 | .box cs,d=>if dst=some d then some cs else none
 | .wr e cs,d=>if d=e then some cs else none
 | .mem us,d=>match us.lookup d with|some (.box cs)=>some cs|_=>none
 |_,_=>none
def ovR:Upd→Nat→Option (Nat×Nat×Nat)
 | .row e q,d=>if d=e then some q else none
 | .mem us,d=>match us.lookup d with|some (.row e W n)=>some (e,W,n)|_=>none
 |_,_=>none
def ovI:Upd→Nat→Option (ByteArray×Nat)
 | .it e q,d=>if d=e then some q else none
 |_,_=>none
theorem z6L(u:Upd):(s.upd dst u).b d=match ovB dst u d with|some cs=>some cs|none=>s.b d:=by
 cases u with
 |box cs=>
  cases dst with
  |none=>rfl
  |some e=>simp only[FS.upd,FS.setB,z0I,ovB,Option.some.injEq];by_cases h:d=e<;>simp[h,Ne.symm,eq_comm]
 |wr e cs=>simp only[FS.upd,FS.setB,z0I,ovB];split<;>rfl
 |mem us=>
  simp only[FS.upd,z8N,ovB]
  grind
 |_=>rfl
theorem za8(u:Upd):(s.upd dst u).r d=match ovR u d with|some q=>some q|none=>s.r d:=by
 cases u with
 |row e q=>simp only[FS.upd,FS.setR,z0I,ovR];split<;>rfl
 |mem us=>
  simp only[FS.upd,z6U,ovR]
  grind
 |box cs=>cases dst<;>rfl
 |_=>rfl
theorem za7(u:Upd):(s.upd dst u).i d=match ovI u d with|some q=>some q|none=>s.i d:=by
 cases u with
 |it e q=>simp only[FS.upd,FS.setI,z0I,ovI];split<;>rfl
 |box cs=>cases dst<;>rfl
 |_=>rfl
theorem za9(u:Upd):(s.upd dst u).t=s.t:=by cases u<;>first|rfl|(cases dst<;>rfl)
theorem zex{k:Nat}{x:TV}:(s.put dst x).t k=if dst=some k then some x else s.t k:=by
 cases dst with
 |none=>simp[FS.put]
 |some d=>
  simp only[FS.put,FS.setT,z0I,Option.some.injEq]
  grind
theorem z9W{x:TV}:(s.put dst x).b=s.b:=by cases dst<;>rfl
theorem zew{x:TV}:(s.put dst x).r=s.r:=by cases dst<;>rfl
theorem zev{x:TV}:(s.put dst x).i=s.i:=by cases dst<;>rfl
structure Shape(s:FS)(dst:Option Nat)(o:SOp)(x:TV)(u:Upd):Prop where
 b:∀d cs,ovB dst u d=some cs→d∈o.news dst∨(o.wb=true∧s.ment d∧(∀k,o.foot s=some k→d=k)∧∃cs0,s.b d=some cs0)
 r:∀d q,ovR u d=some q→d∈o.news dst∨(o.wr=true∧s.ment d)
 i:∀d q,ovI u d=some q→d∈o.news dst∨(o.wi=true∧s.ment d)
 x:∀d,Ment d x→s.ment d∨d∈o.news dst
 m:∀d e cs c,ovB dst u e=some cs→c∈cs→Ment d c→s.ment d∨d∈o.news dst
theorem Shape.no{o:SOp}{x:TV}(h:∀d,Ment d x→s.ment d∨d∈o.news dst):Shape s dst o x .no:=
 ⟨fun _ _ h=>(by cases h),fun _ _ h=>(by cases h),fun _ _ h=>(by cases h),h,fun _ _ _ _ h=>(by cases h)⟩
theorem z0w{α:Type}{o:SOp}{q:Option α}{f:α→TV}{x:TV}{u:Upd}(h:q.map (fun v=>(f v,Upd.no))=some (x,u))(hx:∀v,q=some v→∀d,Ment d (f v)→s.ment d∨d∈o.news dst):Shape s dst o x u:=by
 obtain⟨v,h1,h⟩:=gO h;cases h;exact .no (hx v h1)
theorem zci{o:SOp}{m:Sem Value}{x:TV}{u:Upd}(h:z05 P m=some (x,u)):Shape s dst o x u:=by
 obtain⟨v,rfl,rfl,_⟩:=zb8 h;exact .no (fun d hd=>by cases hd)
theorem z3W{x:Arg}{c:TV}{cs:List TV}(h:(x.get s).bind TV.cells=some cs)(hc:c∈cs)(hm:Ment d c):s.ment d:=by
 grind [Option.bind_eq_some_iff,zZ,z7z]
theorem zdq{c:TV}:∀{ps:List (Nat×Nat×List TV)} {cs cs':List TV},fillT cs ps=some cs'→c∈cs'→c∈cs∨∃p∈ps,c∈p.2.2
 |[],cs,cs',h,hc=>by simp[fillT]at h;subst h;exact .inl hc
 |(off,size,xs)::ps,cs,cs',h,hc=>by
  simp only[fillT]at h;split at h
  ·rcases zdq h hc with h1|⟨p,hp,h1⟩
   ·rcases z7N h1 with h2|h2<;>simp_all
   ·grind
  ·cases h
theorem z99{ρ:Nat→Option Nat}{t y:TV}(h:t.ren0 ρ=some y)(hm:Ment d y):∃d',ρ d'=some d:=by
 cases t<;>simp only[TV.ren0]at h
 case tsl=>cases h;cases hm
 ·cases h;cases hm
 ·cases h;cases hm
 ·obtain⟨d',h1,rfl⟩:=gO h;cases hm;exact⟨_,h1⟩
 ·cases h;split at hm
  ·rename_i d' h1;cases hm;exact⟨_,h1⟩
  ·cases hm
 ·obtain⟨d',h1,rfl⟩:=gO h;cases hm;exact⟨_,h1⟩
 all_goals cases h
theorem z2b{ρ:Nat→Option Nat}{f:TV→Option TV}(hf:∀t y,f t=some y→Ment d y→∃d',ρ d'=some d){xs ys:List TV}(h:seqO f xs=some ys){c:TV}(hc:c∈ys)(hm:Ment d c):∃d',ρ d'=some d:=by
 obtain⟨l1,h1⟩:=z00 h;obtain⟨j,hj⟩:=List.getElem?_of_mem hc;have hjl:j<xs.length:=by grind
 obtain⟨y,hy1,hy2⟩:=h1 j xs[j] (gE hjl)
 grind
theorem z9c{ρ:Nat→Option Nat}{t y:TV}(h:t.renF ρ=some y)(hm:Ment d y):∃d',ρ d'=some d:=by
 cases t with
 |fn f a b=>
  simp only[TV.renF]at h;split at h
  ·rename_i a' b' h1 h2;cases h;cases hm with
   |fn1 hc hm=>exact z2b (fun _ _=>z99) h1 hc hm
   |fn2 hc hm=>exact z2b (fun _ _=>z99) h2 hc hm
  ·cases h
 |_=>grind [only,TV.renF,z99]
theorem zma{ρ:Nat→Option Nat}{t y:TV}(h:t.renE ρ=some y)(hm:Ment d y):∃d',ρ d'=some d:=by
 cases t with
 |agg cs=>
  simp only[TV.renE]at h;obtain⟨l,h1,rfl⟩:=gO h;cases hm with
  |agg hc hm=>exact z2b (fun _ _=>z9c) h1 hc hm
 |_=>grind [only,TV.renE,z9c]
theorem z9a{ρ:Nat→Option Nat}{t y:TV}(h:t.ren1 ρ=some y)(hm:Ment d y):∃d',ρ d'=some d:=by
 cases t with
 |mp ks xs=>
  simp only[TV.ren1]at h;obtain⟨l,h1,rfl⟩:=gO h;cases hm with
  |mp hc hm=>exact z2b (fun _ _=>zma) h1 hc hm
 |_=>grind [only,TV.ren1,z9c]
theorem z9b{ρ:Nat→Option Nat}{t y:TV}(h:t.ren2 ρ=some y)(hm:Ment d y):∃d',ρ d'=some d:=by
 cases t with
 |agg cs=>
  simp only[TV.ren2]at h;obtain⟨l,h1,rfl⟩:=gO h;cases hm with
  |agg hc hm=>exact z2b (fun _ _=>z9a) h1 hc hm
 |_=>grind [only,TV.ren2,z9a]
theorem zm9{ρ:Nat→Option Nat}{t y:TV}(h:t.ren3 ρ=some y)(hm:Ment d y):∃d',ρ d'=some d:=by
 cases t with
 |tuple cs=>
  simp only[TV.ren3]at h;obtain⟨l,h1,rfl⟩:=gO h;cases hm with
  |tuple hc hm=>exact z2b (fun _ _=>z9b) h1 hc hm
 |_=>grind [only,TV.ren3,z9b]
theorem zjU{I:List Nat}{k d d':Nat}(h:rhoOut I k d'=some d):d∈I∨∃q,q<4∧d=newId k q:=by
 grind [rhoOut,List.mem_of_getElem?,Nat.blt_eq]
theorem zbw{k f mode:Nat}{xs:List TV}{x:TV}{u:Upd}{o:SOp}(hm:∀x∈xs,∀d,Ment d x→s.ment d)(hk:k=dstId dst)(hnews:o.news dst=[newId k 0,newId k 1,newId k 2,newId k 3])(hwb:o.wb= !Nat.beq mode 0)(hwr:o.wr= !Nat.beq mode 0)(hft:∀k,o.foot s=some k→handI s mode xs=[k])(h:z2K C s k f mode xs=some (x,u)):Shape s dst o x u:=by
 obtain⟨xs',os,y,os',us,h1,h2,h3,h4,h5,h6,rfl⟩:=zae h;obtain⟨hI,hIm⟩:=z7K (s:=s) mode hm;have key:∀d d',rhoOut (handI s mode xs) k d'=some d→d∈o.news dst∨((!Nat.beq mode 0)=true∧s.ment d):=by
  grind [zjU,Nat.beq,handI]
 have key':∀d d',rhoOut (handI s mode xs) k d'=some d→s.ment d∨d∈o.news dst:=fun d d' hd=>(key d d' hd).elim .inr (fun h=> .inl h.2);have hlk:∀i m,us.lookup i=some m→∃d' m0,rhoOut (handI s mode xs) k d'=some i∧MO.ren (rhoOut (handI s mode xs) k) m0=some m:=fun i m hi=>by
  grind [z6B]
 refine⟨fun d cs hd=> ?_,fun d q hd=> ?_,fun d q hd=>(by cases hd),fun d hd=> ?_,fun d e cs c he hc hd=> ?_⟩
 ·simp only[ovB]at hd;split at hd
  ·rename_i cs0 hl;obtain⟨q,m0,a0,a1,a2⟩:=(z6B h6).1 _ _ hl;rw[hwb];rcases key d _ a1 with hn|hn
   ·grind
   ·cases hI:(handI s mode xs)[q]? with
    |none=>
     left;rw[Nat.zero_add]at a1;unfold rhoOut at a1
     grind [Nat.ble_eq_true_of_le,Nat.add_sub_cancel_left,only,Nat.blt_eq,handI]
    |some i=>
     right;rw[Nat.zero_add]at a1;unfold rhoOut at a1;rw[if_pos (Nat.ble_eq_true_of_le (by omega)),Nat.add_sub_cancel_left,hI]at a1;cases a1;refine⟨hn.1,hn.2,fun k hk=> ?_,?_⟩
     ·grind
     ·obtain⟨g1,g2,g3⟩:=z4E h2;obtain⟨_,_,_,o4⟩:=z5n h4;have hq:q<os.length:=by grind
      cases hm0:os[q]with
      |box c0=>
       obtain⟨i',c,b1,b2,_⟩:=g2 q c0 (by rw[←hm0];exact gE hq)
       grind
      |row e W n=>
       obtain⟨n',hn',_⟩:=o4 q e W n (by rw[←hm0];exact gE hq)
       grind [MO.ren]
  ·cases hd
 ·grind [only,ovR]
 ·grind [zm9]
 ·simp only[ovB]at he;split at he
  ·rename_i hl;cases he;obtain⟨d',m0,_,a2⟩:=hlk _ _ hl;cases m0 with
   |row e W n=>simp[MO.ren]at a2
   |box c0=>
    simp only[MO.ren]at a2;obtain⟨l,a3,a4⟩:=gO a2;cases a4;obtain⟨d',a5⟩:=z2b (ρ:=rhoOut (handI s mode xs) k) (f:=TV.ren1 (rhoOut (handI s mode xs) k)) (fun _ _ h1 h2=>z9a h1 h2) a3 hc hd
    grind
  ·cases he
theorem zkV{o:SOp}{x:TV}{u:Upd}(h:eff P C dst o s=some (x,u)):Shape s dst o x u:=by
 cases o with
 |mov y=>exact z0w (f:=fun c=>c) h (fun v hv d hd=> .inl (zZ hv hd))
 |pick c y z=>
  simp only[eff]at h;split at h
  ·exact z0w (f:=fun c=>c) h (fun v hv d hd=> .inl (zZ hv hd))
  ·cases h
 |bin op t a b=>
  simp only[eff]at h
  grind [zci]
 |un op a=>
  simp only[eff]at h
  grind [zci]
 |cvi k a=>exact z0w h (fun v hv d hd=>by cases hd)
 |mkI t a=>exact z0w h (fun v hv d hd=>by cases hd)
 |bad=>cases h
 |bsl0 W=>cases h;exact .no (fun d hd=>by cases hd)
 |mkm=>cases h;exact .no (fun d hd=>by cases hd with|mp h=>cases h)
 |fnil t a=>exact z0w h (fun v hv d hd=>by cases hd)
 |pan a=>cases h
 |cvs a=>exact z0w h (fun v hv d hd=>by cases hd)
 |b2s a=>exact z0w h (fun v hv d hd=>by cases hd)
 |slen a=>exact z0w h (fun v hv d hd=>by cases hd)
 |len a=>exact z0w h (fun v hv d hd=>by cases hd)
 |imm mx a b=>
  simp only[eff]at h;split at h
  ·cases h;exact .no (fun d hd=>by cases hd)
  ·cases h
 |sidx a b=>
  simp only[eff]at h;split at h
  ·split at h
   ·exact z0w h (fun v hv d hd=>by cases hd)
   ·cases h
  ·cases h
 |ssub a b c=>
  simp only[eff]at h;split at h
  ·split at h
   ·split at h
    ·cases h;exact .no (fun d hd=>by cases hd)
    ·cases h
   ·cases h
  ·cases h
 |new z=>
  simp only[eff]at h;split at h
  ·cases h;refine⟨fun d cs hd=> ?_,fun _ _ h=>(by cases h),fun _ _ h=>(by cases h),fun d hd=> ?_,fun d e cs c he hc hd=> ?_⟩
   ·grind [only,ovB,SOp.news]
   ·cases hd;exact .inr (by simp[SOp.news])
   ·simp only[ovB]at he;split at he
    ·cases he;obtain⟨v,_,rfl⟩:=List.mem_map.1 hc;cases hd
    ·cases he
  ·cases h
 |box y=>
  simp only[eff]at h;split at h
  ·obtain⟨cs',h1,h2⟩:=gO h;cases h2;refine⟨fun d cs hd=> ?_,fun _ _ h=>(by cases h),fun _ _ h=>(by cases h),fun d hd=> ?_,fun d e cs c he hc hd=> ?_⟩
   ·grind [only,ovB,SOp.news]
   ·cases hd;exact .inr (by simp[SOp.news])
   ·grind [only,ovB,z3W]
  ·cases h
 |mks tt bytes z n=>
  simp only[eff]at h;split at h
  ·split at h
   ·cases h;refine⟨fun d cs hd=> ?_,fun _ _ h=>(by cases h),fun _ _ h=>(by cases h),fun d hd=> ?_,fun d e cs c he hc hd=> ?_⟩
    ·grind [only,ovB,SOp.news]
    ·cases hd;exact .inr (by simp[SOp.news])
    ·simp only[ovB]at he;split at he
     ·cases he;obtain⟨l,h1,h2⟩:=List.mem_flatten.1 hc;rw[List.eq_of_mem_replicate h1]at h2;obtain⟨v,_,rfl⟩:=List.mem_map.1 h2;cases hd
     ·cases he
   ·cases h
  ·cases h
 |build z ps=>
  simp only[eff]at h;obtain⟨qs,h1,h⟩:=gB h;refine z0w h (fun v hv d hm=> ?_);cases hm with
  |agg hc hm=>
  rcases zdq hv hc with h3|⟨p,hp,h3⟩
  ·obtain⟨w,_,rfl⟩:=List.mem_map.1 h3;cases hm
  ·obtain⟨k,hk⟩:=List.getElem?_of_mem hp;obtain⟨l1,hs1⟩:=z00 h1;have hkl:k<ps.length:=by grind
   obtain⟨y,hy1,hy2⟩:=hs1 k ps[k] (gE hkl)
   grind [Option.map_eq_some_iff,z3W]
 |lkp text z y i=>
  simp only[eff]at h;split at h
  ·rename_i ks xs k hy _;split at h
   ·exact z0w (f:=fun t=>t) h (fun v hv d hm=> .inl (zZ hy (.mp (gM hv) hm)))
   ·cases h;refine .no (fun d hm=> ?_);unfold zeroT at hm;split at hm
    ·cases hm with
     |agg hc hm=>obtain⟨v,_,rfl⟩:=List.mem_map.1 hc;cases hm
    ·cases hm
   ·cases h
  ·cases h
 |bslO e W xs=>
  simp only[eff]at h;split at h
  ·split at h
   ·cases h;refine⟨fun _ _ h=>(by cases h),fun d q hd=> ?_,fun _ _ h=>(by cases h),fun d hm=> ?_,fun _ _ _ _ h=>(by cases h)⟩
    ·grind [only,ovR,SOp.news]
    ·cases hm;exact .inr (by simp[SOp.news])
   ·cases h
  ·cases h
 |bslB W xs=>
  simp only[eff]at h;split at h
  ·rename_i d0 es hd0 hes;split at h
   ·cases h;refine⟨fun d cs hd=> ?_,fun _ _ h=>(by cases h),fun _ _ h=>(by cases h),fun d hd=> ?_,fun d e cs c he hc hd=> ?_⟩
    ·grind [only,ovB,SOp.news]
    ·cases hd;exact .inr (by simp[SOp.news])
    ·simp only[ovB]at he;split at he
     ·cases he;obtain⟨ps,hps,hcp⟩:=List.mem_flatten.1 hc;obtain⟨k,hk⟩:=List.getElem?_of_mem hps;obtain⟨l1,h1⟩:=z00 hes;have hkl:k<xs.length:=by rw[l1];exact(gJ hk).1
      obtain⟨y,hy1,hy2⟩:=h1 k xs[k] (gE hkl);rw[hk]at hy1;cases hy1;exact .inl (z3W hy2 hcp hd)
     ·cases he
   ·cases h
  ·cases h
 |bsl W xs=>
  simp only[eff]at h;obtain⟨_,_,h⟩:=gB h;split at h
  ·cases h;exact .no (fun d hd=>by cases hd)
  ·cases h
 |fld a off size y=>
  simp only[eff]at h;split at h
  ·rename_i cs hy;split at h
   ·split at h
    ·cases h;refine .no (fun d hm=> ?_);cases hm with
     |agg hc hm=>exact .inl (zZ hy (.agg (List.mem_of_mem_drop (List.mem_of_mem_take hc)) hm))
    ·cases h
   ·exact z0w (f:=fun c=>c) h (fun v hv d hm=> .inl (zZ hy (.agg (gM hv) hm)))
  ·cases h
 |fldA off y=>
  simp only[eff]at h;split at h
  ·rename_i d' o' hy;cases h;exact .no (fun d hm=>by cases hm;exact .inl (zZ hy (.ptr _)))
  ·cases h;exact .no (fun d hm=>by cases hm)
  ·cases h
 |ld a size y=>
  simp only[eff]at h;split at h
  ·rename_i d' o' hy;obtain⟨cs,hb,h⟩:=gB h;split at h
   ·split at h
    ·cases h;refine .no (fun d hm=> ?_);cases hm with
     |agg hc hm=>exact .inl (.inr ⟨d',cs,_,hb,List.mem_of_mem_drop (List.mem_of_mem_take hc),hm⟩)
    ·cases h
   ·exact z0w (f:=fun c=>c) h (fun v hv d hm=> .inl (.inr ⟨d',cs,_,hb,gM hv,hm⟩))
  ·split at h
   ·split at h
    ·cases h;refine .no (fun d hm=> ?_);cases hm with
     |agg hc hm=>
      obtain⟨p,_,rfl⟩:=List.mem_map.1 hc;cases hm
    ·cases h
   ·exact z0w h (fun v hv d hm=>by cases hm)
  ·cases h
 |st n y z=>
  simp only[eff]at h;split at h
  ·rename_i d' o' hy;obtain⟨cs,hb,h⟩:=gB h;obtain⟨xs,hxs,h⟩:=gB h;split at h
   ·cases h;refine⟨fun d cs' hd=> ?_,fun _ _ h=>(by cases h),fun _ _ h=>(by cases h),fun d hd=>(by cases hd),fun d e cs' c he hc hd=> ?_⟩
    ·simp only[ovB]at hd;split at hd
     ·rename_i e;subst e;exact .inr ⟨rfl,zZ hy (.ptr _),fun k hk=>by simp only[SOp.foot,hy]at hk;exact Option.some.inj hk,_,hb⟩
     ·cases hd
    ·simp only[ovB]at he;split at he
     ·cases he;rcases z7N hc with h1|h1
      ·exact .inl (.inr ⟨_,cs,c,hb,h1,hd⟩)
      ·grind [z3W]
     ·cases he
   ·cases h
  ·cases h
 |idxA W y i=>
  simp only[eff]at h;split at h
  ·rename_i hy _;split at h
   ·cases h;exact .no (fun d hm=>by cases hm;exact .inl (zZ hy (.bs _ _ _)))
   ·cases h
  ·split at h
   ·exact z0w h (fun v hv d hm=>by cases hm)
   ·cases h
  ·cases h
 |sub W y lo hi=>
  simp only[eff]at h;split at h
  ·rename_i hy;split at h
   ·split at h
    ·cases h;refine .no (fun d hm=> ?_);split at hm<;>cases hm
     exact .inl (zZ hy (.bs _ _ _))
    ·cases h
   ·cases h
  ·split at h
   ·split at h
    ·split at h
     ·cases h;exact .no (fun d hm=>by cases hm)
     ·cases h
    ·cases h
   ·cases h
  ·cases h
 |app e W b y z=>
  simp only[eff]at h;split at h
  ·rename_i d' W' es es2 hy _;split at h
   ·cases h;refine⟨fun _ _ h=>(by cases h),fun d q hd=> ?_,fun _ _ h=>(by cases h),fun d hm=> ?_,fun _ _ _ _ h=>(by cases h)⟩
    ·simp only[ovR]at hd;split at hd
     ·rename_i e;subst e;exact .inr ⟨rfl,zZ hy (.own _ _)⟩
     ·cases hd
    ·cases hm;exact .inl (zZ hy (.own _ _))
   ·cases h
  ·cases h
 |appS e b y z=>
  simp only[eff]at h;split at h
  ·rename_i d' W' es es2 hy _;split at h
   ·cases h;refine⟨fun _ _ h=>(by cases h),fun d q hd=> ?_,fun _ _ h=>(by cases h),fun d hm=> ?_,fun _ _ _ _ h=>(by cases h)⟩
    ·simp only[ovR]at hd;split at hd
     ·rename_i e;subst e;exact .inr ⟨rfl,zZ hy (.own _ _)⟩
     ·cases hd
    ·cases hm;exact .inl (zZ hy (.own _ _))
   ·cases h
  ·cases h
 |appN e W b y z=>
  simp only[eff]at h;split at h
  iterate 2
   ·split at h
    ·cases h;refine⟨fun _ _ h=>(by cases h),fun d q hd=> ?_,fun _ _ h=>(by cases h),fun d hm=> ?_,fun _ _ _ _ h=>(by cases h)⟩
     ·grind [only,ovR,SOp.news]
     ·cases hm;exact .inr (by simp[SOp.news])
    ·cases h
  ·cases h
 |appB e W b y z=>
  simp only[eff]at h;split at h
  ·split at h
   ·split at h
    ·cases h;exact .no (fun d hd=>by cases hd)
    ·cases h;refine⟨fun d cs hd=> ?_,fun _ _ h=>(by cases h),fun _ _ h=>(by cases h),fun d hd=> ?_,fun d e cs c he hc hd=> ?_⟩
     ·grind [only,ovB,SOp.news]
     ·cases hd;exact .inr (by simp[SOp.news])
     ·simp only[ovB]at he;split at he
      ·cases he;obtain⟨v,_,rfl⟩:=List.mem_map.1 hc;cases hd
      ·cases he
   ·cases h
  ·cases h
 |appNS e b y z=>
  simp only[eff]at h;split at h
  ·split at h
   ·cases h;refine⟨fun _ _ h=>(by cases h),fun d q hd=> ?_,fun _ _ h=>(by cases h),fun d hm=> ?_,fun _ _ _ _ h=>(by cases h)⟩
    ·grind [only,ovR,SOp.news]
    ·cases hm;exact .inr (by simp[SOp.news])
   ·cases h
  ·cases h
 |call f m xs=>
  simp only[eff]at h;obtain⟨vs,hv,h⟩:=gB h;exact zbw (z6i hv) rfl rfl rfl rfl (fun k hk=>zdv hv hk) h
 |callv y m xs=>
  simp only[eff]at h;split at h
  ·rename_i h1 h2;exact zbw (zbx (t:=.unk) h1 h2) rfl rfl rfl rfl (fun k hk=>by cases hk) h
  ·cases h
 |ext y i=>
  simp only[eff]at h;split at h
  ·rename_i ts hy;exact z0w (f:=fun c=>c) h (fun v hv d hm=> .inl (zZ hy (.tuple (gM hv) hm)))
  ·cases h
 |nchk y=>
  simp only[eff]at h;split at h
  ·rename_i hy;cases h;exact .no (fun d hm=> .inl (zZ hy hm))
  ·rename_i hy;cases h;exact .no (fun d hm=> .inl (zZ hy hm))
  ·cases h
 |mkf f a b=>
  simp only[eff]at h;split at h
  ·rename_i h1 h2;cases h;refine .no (fun d hm=> ?_);cases hm<;>grind [z6i]
  ·cases h
 |rng y=>
  simp only[eff]at h;split at h
  ·cases h;refine⟨fun _ _ h=>(by cases h),fun _ _ h=>(by cases h),fun d q hd=> ?_,fun d hm=> ?_,fun _ _ _ _ h=>(by cases h)⟩
   ·grind [only,ovI,SOp.news]
   ·cases hm;exact .inr (by simp[SOp.news])
  ·cases h
 |nxt y=>
  simp only[eff]at h;split at h
  ·rename_i hy;split at h
   ·split at h
    ·cases h;refine⟨fun _ _ h=>(by cases h),fun _ _ h=>(by cases h),fun d q hd=> ?_,fun d hm=> ?_,fun _ _ _ _ h=>(by cases h)⟩
     ·simp only[ovI]at hd;split at hd
      ·rename_i e;subst e;exact .inr ⟨rfl,zZ hy .it⟩
      ·cases hd
     ·cases hm with
      |tuple hc hm=>simp at hc;rcases hc with rfl|rfl|rfl<;>cases hm
    ·cases h;refine .no (fun d hm=> ?_);cases hm with
     |tuple hc hm=>simp at hc;subst hc;cases hm
   ·cases h
  ·cases h
end
end
end Go.Sh
end
