/- Merged texts: Px3 S21 S22 S24 S28 S29 S30. No statement of the program is proved here. -/
import Derived.Test.YtbkgnekfigknhaaGreatDoorR15
import Derived.OrdersIn
import Derived.Laws.OwnMore
set_option linter.unusedSimpArgs false
set_option linter.unusedVariables false
set_option maxRecDepth 100000
set_option maxHeartbeats 8000000
section
namespace Go.Mor
open Go
section
section
variable{L:List Pc}{sz p:Nat}{t:T3}{ts r post:List T3}
theorem z1B(h:(L.drop p).map er=t::r):er (pkP L sz p)=t∧(L.drop (p+1)).map er=r:=by
 cases hd:L.drop p with
 |nil=>grind
 |cons q l=>
  rw[hd,List.map_cons]at h;injection h with h1 h2
  have hq:L[p]?=some q:=by
   have:=congrArg (·[0]?) hd
   grind
  refine⟨by simp[pkP,hq,h1],?_⟩;have:L.drop (p+1)=l:=by
   have:=congrArg (List.drop 1) hd
   grind [List.drop_drop,Nat.add_comm]
  grind
theorem zlo(h:(L.drop p).map er=[]):pkP L sz p=⟨0,0,[],sz⟩:=by
 have h2:L.length≤p:=by simp_all
 simp[pkP,List.getElem?_eq_none h2]
theorem z4P(h:(L.drop p).map er=ts++r):(L.drop (p+ts.length)).map er=r:=by
 have:=congrArg (List.drop ts.length) h
 grind [List.map_drop,List.drop_drop]
theorem zcs{q:Pc}(h:er q=t):q.k=t.1∧q.n=t.2.1∧q.s=t.2.2:=by subst h;exact⟨rfl,rfl,rfl⟩
theorem z10{q:Pc}(h:er q=t)(s:zB):zY q s=(t.1==4&&t.2.2==s):=by subst h;rfl
end
def NP(post:List T3):Prop:=∀t r,post=t::r→t.1=4∧t.2.2≠[40]
def z5I(least:Int)(post:List T3):Prop:=∀t r,post=t::r→t.1=4→zf t.2.2<least
theorem z7Q{s:zB}(h:s≠[40])(r:List T3):NP (sg s::r):=by intro t r e;cases e;exact⟨rfl,h⟩
theorem z3w{s:zB}{m:Int}(h:zf s<m)(r:List T3):z5I m (sg s::r):=by intro t r e _;cases e;exact h
theorem zrB:NP []:=by intro t r e;cases e
theorem zlQ(m:Int):z5I m []:=by intro t r e;cases e
theorem zms{s:zB}(h:0<zf s):s≠[40]:=by rintro rfl;revert h;decide
def PT(d:Nat):Prop:=∀e,okE d e=true→e.k≠4→∀(L:List Pc) (sz p:Nat) (post:List T3),(L.drop p).map er=z0H d e++post→NP post→∃F,∀f,F≤f→pT L sz f p=some (.ok e (p+(z0H d e).length))
def PC(d:Nat):Prop:=∀e,okE d e=true→∀(least:Int) (L:List Pc) (sz p:Nat) (post:List T3),(L.drop p).map er=z0H d e++post→NP post→(e.k=4→least≤zf e.s∧z5I (zf e.s+1) post)→
 ∃F j,∀f,F≤f→pE L sz (f+j) least p=pL L sz f least e (p+(z0H d e).length)
def PK(d:Nat):Prop:=∀e,okE d e=true→∀(m least:Int),least≤m→∀(L:List Pc) (sz p:Nat) (post:List T3),(L.drop p).map er=z3V e m (z0H d e)++post→NP post→(e.k=4→m≤zf e.s→z5I (zf e.s+1) post)→
 ∃F j,∀f,F≤f→pE L sz (f+j) least p=pL L sz f least e (p+(z3V e m (z0H d e)).length)
def PD(d:Nat):Prop:=∀e,okE d e=true→∀(m:Int) (L:List Pc) (sz p:Nat) (post:List T3),(L.drop p).map er=z3V e m (z0H d e)++post→NP post→z5I m post→
 ∃F,∀f,F≤f→pE L sz f m p=some (.ok e (p+(z3V e m (z0H d e)).length))
theorem zcG{L:List Pc}{sz p:Nat}{post:List T3}{m:Int}{e:V}(h:(L.drop p).map er=post)(hs:z5I m post)(f:Nat):pL L sz (f+1) m e p=some (.ok e p):=by
 rw[pL,if_pos];cases post with
 |nil=>rw[zlo h];simp
 |cons t r=>
  obtain⟨h1,h2,h3⟩:=zcs (z1B (sz:=sz) h).1;rw[h1,h3];by_cases hk:t.1=4
  ·exact .inr (hs t r rfl hk)
  ·omega
theorem zp4{d:Nat}(hk:PK d):PD d:=by
 intro e he m L sz p post h hnp hst;obtain⟨F,j,hF⟩:=hk e he m m (Int.le_refl _) L sz p post h hnp (fun h4 hm t r e1 e2=>by have:=hst t r e1 e2;omega);refine⟨F+1+j,fun f hf=> ?_⟩;obtain⟨g,rfl⟩:∃g,f=g+1+j:=⟨f-1-j,by omega⟩
 rw[hF (g+1) (by omega)]
 grind [zcG,z4P]
theorem b41:zf [41]=0:=by decide
theorem zji{d:Nat}(hc:PC d):PK d:=by
 intro e he m least hle L sz p post h hnp hst;unfold z3V at h ⊢;by_cases hb:e.k=4∧zf e.s<m
 ·rw[if_pos hb]at h ⊢;have hn:=(by cases d with|zero=>cases he|succ d=>exact(z2G he).1:z0p e=true)
  obtain⟨_,hb0,_⟩:=z3M hn hb.1;rw[List.cons_append]at h;obtain⟨h1,h2⟩:=z1B (sz:=sz) h;rw[List.append_assoc,List.singleton_append]at h2;obtain⟨F,j,hF⟩:=hc e he 1 L sz (p+1) (sg [41]::post) h2 (z7Q (by decide) _) (fun _=>⟨by omega,z3w (by rw[b41];omega) _⟩);have h3:=z4P h2;obtain⟨h4,h5⟩:=z1B (sz:=sz) h3;have hT:∀f,F+j+2≤f→pT L sz f p=some (.ok e (p+(sg [40]::(z0H d e++[sg [41]])).length)):=by
   intro f hf;obtain⟨g,rfl⟩:∃g,f=g+1+j+1:=⟨f-j-2,by omega⟩
   rw[pT,z10 h1,show((sg [40]).1==4&&(sg [40]).2.2==[40])=true from rfl,if_pos rfl,hF (g+1) (by omega),
    zcG h3 (z3w (by decide) _) g]
   simp only;rw[z10 h4,show((sg [41]).1==4&&(sg [41]).2.2==[41])=true from rfl,if_pos rfl];simp only[List.length_cons,List.length_append,List.length_nil];congr 2;omega
  refine⟨F+j+2,1,fun f hf=> ?_⟩;rw[pE,hT f hf]
 ·rw[if_neg hb]at h ⊢;exact hc e he least L sz p post h hnp (fun h4=>by
   have:m≤zf e.s:=by
    omega
   exact⟨by omega,hst h4 this⟩)
theorem z7h{d:Nat}{e:V}(he:okE d e=true)(ts:List T3):z3V e 1 ts=ts:=by
 cases d with
 |zero=>cases he
 |succ d=>
  unfold z3V;rw[if_neg];rintro⟨h4,hb⟩;obtain⟨_,h0,_⟩:=z3M (z2G he).1 h4;omega
theorem zhQ{d:Nat}(hd:PD d)(n:Nat)(L:List Pc)(sz:Nat)(post:List T3):∀(l:List V),(∀x∈l,okE d x=true)→∀(acc:List V) (p:Nat),0<acc.length→acc.length+l.length=n→(L.drop p).map er=(l.map fun y=>sg [44]::z0H d y).flatten++(sg [41]::post)→
  ∃F,∀f,F≤f→pH L sz f n acc.length p acc=some (.ok (acc++l) (p+((l.map fun y=>sg [44]::z0H d y).flatten).length+1))
 |[],_,acc,p,h0,hn,h=>by
  obtain⟨h1,_⟩:=z1B (sz:=sz) h;refine⟨1,fun f hf=> ?_⟩;obtain⟨g,rfl⟩:∃g,f=g+1:=⟨f-1,by omega⟩
  grind [pH,z10,sg]
 |y::l,hl,acc,p,h0,hn,h=>by
  rw[List.map_cons,List.flatten_cons,List.append_assoc,List.cons_append]at h;obtain⟨h1,h2⟩:=z1B (sz:=sz) h;have hy:=hl y (List.mem_cons_self ..);have hp:NP ((l.map fun y=>sg [44]::z0H d y).flatten++(sg [41]::post))∧z5I 1 ((l.map fun y=>sg [44]::z0H d y).flatten++(sg [41]::post)):=by
   cases l with
   |nil=>exact⟨z7Q (by decide) _,z3w (by decide) _⟩
   |cons z l=>exact⟨z7Q (by decide) _,z3w (by decide) _⟩
  obtain⟨F1,hF1⟩:=hd y hy 1 L sz (p+1) _ (by grind [z7h]) hp.1 hp.2;rw[z7h hy]at hF1;have h3:=z4P h2;obtain⟨F2,hF2⟩:=zhQ hd n L sz post l (fun x hx=>hl x (List.mem_cons_of_mem _ hx)) (acc++[y]) (p+1+(z0H d y).length) (by simp) (by grind) h3;refine⟨F1+F2+1,fun f hf=> ?_⟩;obtain⟨g,rfl⟩:∃g,f=g+1:=⟨f-1,by omega⟩
  rw[pH,if_pos (by grind),z10 h1,show((sg [44]).1==4&&(sg [44]).2.2==[44])=true from rfl,if_neg (by simp),if_pos h0,hF1 g (by omega)];have:=hF2 g (by omega)
  grind
theorem zsW{d:Nat}(hd:PD d):PT (d+1):=by
 intro e he h4 L sz p post h hnp;obtain⟨hn,hk⟩:=z2G he;have heta:=V.eta e;unfold z0H at h ⊢;rcases z23 hn with k|k|k|k|k|k
 ·obtain⟨_,_,hs,hl⟩:=z6C hn k;simp only[k,if_true]at h ⊢;obtain⟨h1,_⟩:=z1B (sz:=sz) h;obtain⟨q1,q2,q3⟩:=zcs h1;refine⟨1,fun f hf=> ?_⟩;obtain⟨g,rfl⟩:∃g,f=g+1:=⟨f-1,by omega⟩
  rw[pT,z10 h1,z10 h1,q1,q2];simp only[Int.reduceBEq,Bool.false_and,Bool.false_eq_true,if_false,if_true];rw[k,hs,hl]at heta;rw[heta];rfl
 ·obtain⟨hn0,_,hl⟩:=z5g hn k;simp only[k,Int.reduceEq,if_false,if_true]at h ⊢;obtain⟨h1,_⟩:=z1B (sz:=sz) h;obtain⟨q1,q2,q3⟩:=zcs h1;refine⟨1,fun f hf=> ?_⟩;obtain⟨g,rfl⟩:∃g,f=g+1:=⟨f-1,by omega⟩
  rw[pT,z10 h1,z10 h1,q1,q3];simp only[Int.reduceBEq,Bool.false_and,Bool.false_eq_true,if_false,Int.reduceEq,if_true];rw[k,hn0,hl]at heta;rw[heta];rfl
 ·obtain⟨hn0,_,hl⟩:=z7P hn k;simp only[k,Int.reduceEq,if_false]at h ⊢;obtain⟨h1,h2⟩:=z1B (sz:=sz) h;obtain⟨q1,q2,q3⟩:=zcs h1;have hne:zY (pkP L sz (p+1)) [40]=false:=by
   cases post with
   |nil=>rw[zlo h2];rfl
   |cons t r=>
    obtain⟨h3,_⟩:=z1B (sz:=sz) h2;rw[z10 h3];have:=(hnp t r rfl).2;simp[this]
  refine⟨1,fun f hf=> ?_⟩;obtain⟨g,rfl⟩:∃g,f=g+1:=⟨f-1,by omega⟩
  rw[pT,z10 h1,z10 h1,q1,q3,hne];simp only[Int.reduceBEq,Bool.false_and,Bool.false_eq_true,if_false,Int.reduceEq,and_false,if_true];rw[k,hn0,hl]at heta;rw[heta];rfl
 ·exact absurd k h4
 ·obtain⟨hn0,hs,a,hl⟩:=z5h hn k;simp only[k,Int.reduceEq,if_false,if_true,hl,List.getD_cons_zero]at h ⊢;rw[List.cons_append]at h;obtain⟨h1,h2⟩:=z1B (sz:=sz) h;have ha:=hk a (by simp[hl]);have ht:∃F,∀f,F≤f→pT L sz f (p+1)=some (.ok a (p+1+(z3V a 5 (z0H d a)).length)):=by
   obtain⟨F,hF⟩:=hd a ha 5 L sz (p+1) post h2 hnp (fun t r e1 e2=>by
    have:zf t.2.2≤4:=by
     unfold zf
     repeat' split
     all_goals omega
    omega)
   refine⟨F+1,fun f hf=> ?_⟩;have h5:=hF (f+1) (by omega);rw[pE]at h5;cases hp:pT L sz f (p+1)with
   |none=>rw[hp]at h5;cases h5
   |some q=>
    rw[hp]at h5;cases q with
    |bad x y=>cases h5
    |ok e' p'=>
     simp only at h5;obtain⟨g,rfl⟩:∃g,f=g+1:=⟨f-1,by omega⟩
     rw[pL,if_pos]at h5
     ·exact h5
     ·by_cases hk4:(pkP L sz p').k=4
      ·right;unfold zf;repeat' split;all_goals omega
      ·exact .inl hk4
  obtain⟨F,hF⟩:=ht;refine⟨F+1,fun f hf=> ?_⟩;obtain⟨g,rfl⟩:∃g,f=g+1:=⟨f-1,by omega⟩
  rw[pT,z10 h1,z10 h1,show((sg [45]).1==4&&(sg [45]).2.2==[40])=false from rfl,show((sg [45]).1==4&&(sg [45]).2.2==[45])=true from rfl,if_neg (by simp),if_pos rfl,hF g (by omega)];simp only;rw[k,hn0,hs,hl]at heta;rw[heta];simp only[List.length_cons];congr 2;omega
 ·obtain⟨hn0,ht,hl⟩:=z4E hn k;simp only[k,Int.reduceEq,if_false,if_true]at h ⊢;obtain⟨y,l,hyl⟩:∃y l,e.l=y::l:=by
   cases hh:e.l with
   |nil=>rw[hh]at hl;simp at hl;omega
   |cons y l=>exact⟨y,l,rfl⟩
  have hy:=hk y (by rw[hyl];exact List.mem_cons_self ..);have hks:∀x∈l,okE d x=true:=fun x hx=>hk x (by rw[hyl];exact List.mem_cons_of_mem _ hx);rw[hyl,List.map_cons,zo7,List.map_map]at h ⊢;rw[List.cons_append,List.cons_append,List.append_assoc,List.append_assoc]at h;obtain⟨h1,h2⟩:=z1B (sz:=sz) h;obtain⟨q1,q2,q3⟩:=zcs h1;obtain⟨h3,h5⟩:=z1B (sz:=sz) h2;have hp:NP ((l.map fun y=>sg [44]::z0H d y).flatten++(sg [41]::post))∧z5I 1 ((l.map fun y=>sg [44]::z0H d y).flatten++(sg [41]::post)):=by
   cases l with
   |nil=>exact⟨z7Q (by decide) _,z3w (by decide) _⟩
   |cons z l=>exact⟨z7Q (by decide) _,z3w (by decide) _⟩
  have h5':(L.drop (p+1+1)).map er=z0H d y++((l.map fun y=>sg [44]::z0H d y).flatten++(sg [41]::post)):=by simpa [Function.comp_def]using h5
  obtain⟨F1,hF1⟩:=hd y hy 1 L sz (p+1+1) _ (by rw[z7h hy];exact h5') hp.1 hp.2;rw[z7h hy]at hF1;have h6:=z4P h5';obtain⟨F2,hF2⟩:=zhQ hd (zm e.s).toNat L sz post l hks [y] (p+1+1+(z0H d y).length) (by simp) (by rw[hyl]at hl;simp at hl ⊢;omega) h6;refine⟨F1+F2+2,fun f hf=> ?_⟩;obtain⟨g,rfl⟩:∃g,f=g+1+1:=⟨f-2,by omega⟩
  rw[pT,z10 h1,z10 h1,q1,q3,z10 h3,show((sg [40]).1==4&&(sg [40]).2.2==[40])=true from rfl];simp only[Int.reduceBEq,Bool.false_and,Bool.false_eq_true,if_false,Int.reduceEq,and_true,ht,if_true];rw[pH,if_pos (by omega),if_neg (by simp),if_neg (by simp),hF1 g (by omega)];simp only[List.nil_append];have h7:=hF2 g (by omega);rw[show([y]:List V).length=0+1 from rfl]at h7;rw[h7];rw[k,hn0,hyl]at heta;simp only[List.singleton_append];rw[heta];simp only[List.length_cons,List.length_append,List.length_nil,Function.comp_def];congr 2;omega
theorem zsV{d:Nat}(ht:PT (d+1))(hk:PK d)(hd:PD d):PC (d+1):=by
 intro e he least L sz p post h hnp hst;by_cases h4:e.k=4
 ·obtain⟨hle,hst⟩:=hst h4;obtain⟨hn,hks⟩:=z2G he;obtain⟨hn0,hb0,a,b,hl⟩:=z3M hn h4;have ha:=hks a (by simp[hl]);have hb:=hks b (by simp[hl]);have htk:z0H (d+1) e=z3V a (zf e.s) (z0H d a)++sg e.s::z3V b (zf e.s+1) (z0H d b):=by
   rw[z0H]
   grind
  rw[htk,List.append_assoc,List.cons_append]at h;obtain⟨F1,j,hF1⟩:=hk a ha (zf e.s) least hle L sz p _ h (z7Q (zms hb0) _) (fun _ hm=>z3w (by omega) _);have h2:=z4P h;obtain⟨h3,h5⟩:=z1B (sz:=sz) h2;obtain⟨q1,q2,q3⟩:=zcs h3;obtain⟨F2,hF2⟩:=hd b hb (zf e.s+1) L sz (p+(z3V a (zf e.s) (z0H d a)).length+1) post h5 hnp hst;refine⟨F1+F2,j+1,fun f hf=> ?_⟩;rw[show f+(j+1)=f+1+j by omega,hF1 (f+1) (by omega),pL,q1,q3,if_neg (by simp only[sg,ne_eq,not_true_eq_false,false_or];omega),show(sg e.s).2.2=e.s from rfl,hF2 f (by omega)]
  grind [V.eta]
 ·obtain⟨F,hF⟩:=ht e he h4 L sz p post h hnp;exact⟨F,1,fun f hf=>by rw[pE,hF f hf]⟩
theorem zbP:∀d,PT d∧PC d∧PK d∧PD d
 |0=>by
  have hc:PC 0:=fun e he=>absurd he (by simp[okE]);exact⟨fun e he=>absurd he (by simp[okE]),hc,zji hc,zp4 (zji hc)⟩
 |d+1=>by
  obtain⟨_,_,hk,hd⟩:=zbP d
  grind [zsW,zsV,zji,zp4]
end
end Go.Mor
end

section
namespace Go.Sh
open Go Go.RowKit
section
section
variable{P:Program}{g:Glob}
def zbg(s:FS)(d:Nat):List Nat:=match s.b d with|some cs=>cs.flatMap TV.ids1|none=>[]
def zoD(y0:TV)(s:FS)(al:List Nat):Option (TV×List MO):=match y0.ren3 (rhoIn al),seqO (fun d=>(s.mo d).bind (MO.ren (rhoIn al))) al with
 |some y,some os'=>some (y,os')
 |_,_=>none
def zoQ(y0:TV)(keep:Bool)(n:Nat)(s:FS):Option (TV×List MO):=zoD y0 s (zA s keep 64 (y0.ids3++(idsFrom 1000 n).flatMap (zbg s)) (idsFrom 1000 n))
theorem zpI{res:List SRes}{keep:Bool}{n:Nat}{s:ES}{y0:TV}(h:resT s.fs res=some y0):exitR res keep n s=zoQ y0 keep n s.fs:=by
 unfold exitR exitF;rw[h];rfl
end
end
section
abbrev Fw(ro:Option Nat):Fence:={ Fence.wide with round:=ro }
section
variable{P:Program}{ops:Array Oper}{Q:Exit→Act→World→Prop}{ro:Option Nat}{n:Nat}
theorem ztg{o:Oper}(hd:∀c,o.op≠ .defer c){a:Act}{w:World}{K:Act→World→Prop}(h:o.wp P a w K Q):o.wpIn (Fw ro) n P a w K Q:=by
 refine⟨fun _ _=>trivial,?_⟩;rw[Oper.semAt_eq _ _ _ hd];unfold Oper.wp at h;generalize(execOp a.eval o).run P w=r at*;cases r with
 |ok x w'=>
  cases x with
  |value v=>exact h
  |skip=>exact h
  |defer d=>exact h
  |enter f args=>exact⟨fun h=>(by cases h),callsIn_wide.2 h⟩
  |row r args=>exact⟨fun h=>(by cases h),fun c cs _=>let⟨v,w',r,s⟩:=h c cs;⟨v,w',r,stepsIn_wide.2 s⟩⟩
  |_=>exact(h:False).elim
 |halt x w'=>cases x<;>first|exact h|exact(h:False).elim
theorem z8Q{i:Nat}(hd:∀o:Oper,ops[i]?=some o→∀c,o.op≠Op.defer c)(hQ:¬LetsOut Q){a:Act}{w:World}{K:Act→World→Prop}(h:wpOp P ops Q i K a w):wpOpIn (Fw ro) n P ops Q i K a w:=by
 unfold wpOp at h;unfold wpOpIn;cases ho:ops[i]? with
 |none=>grind
 |some o=>
  rw[ho]at h;simp at h ⊢;split at h
  ·grind [ztg]
  ·rename_i hw;rw[if_neg hw];exact⟨fun _ _=>trivial,h⟩
theorem zp3(hd:∀(i:Nat) (o:Oper),ops[i]?=some o→∀c,o.op≠Op.defer c)(hQ:¬LetsOut Q):∀(is:List Nat) (a:Act) (w:World),wpOps P ops Q is a w→wpOpsIn (Fw ro) n P ops Q is a w
 |[],a,w,h=>h
 |i::is,a,w,h=>by
  refine wpOpIn_mono (fun a w h=>zp3 hd hQ is a w h) (z8Q (hd i) hQ h)
theorem zoB(hd:∀(i:Nat) (o:Oper),ops[i]?=some o→∀c,o.op≠Op.defer c)(hQ:¬LetsOut Q):∀(fuel:Nat) (li:Array Bool) (a:Act) (w:World),wpAny P .any ops Q fuel li a w→wpAnyIn (Fw ro) n P .any ops Q fuel li a w
 |0,li,a,w,h=>h
 |fuel+1,li,a,w,h=>⟨h.1,fun i hi=>wpOpIn_mono (fun a w h=>zoB hd hQ fuel _ a w h) (z8Q (hd i) hQ (h.2 i hi))⟩
theorem zhL{N:Nat}{H:Option Nat→Nat}{fp:Option Nat}{o:Oper}{so:SOper}(ht:z1p P N H fp ops o=some so):∀c,o.op≠ .defer c:=by
 intro c hc;unfold z1p at ht;split at ht<;>try(cases ht;done)
 rename_i hop;unfold zw at hop;rw[hc]at hop;simp at hop
end
section
variable{P:Program}{H:Option Nat→Nat}{ops:Array Oper}{B:Base}{sops:List SOper}{g:Glob}{draw:Bool}{id:Nat}{ro:Option Nat}{n:Nat}
theorem zcK(zk:P.follows .mixedOrders=true)(hm0:B.m≤1000)(hN:B.N≤1000)(hG:g.G B.w0)(hX:∀d b,B.X d b→g.n≤b){fps:Nat→Option Nat}(htr:z0h P B.N H fps ops draw=some sops){s:ES}{K:ES→Prop}
  (hf:∀d∈sops.flatMap SOper.news,z0I s.fs d) (h:zQ P g sops K s) {a:Act} {w:World} {E:Env} (hS:Sim B s.fs a w E) {Q:Exit→Act→World→Prop} (hLO:¬LetsOut Q) (hQ:∀s' a' w' E',K s'→Sim B s'.fs a' w' E'→Q .normal a' w'):
  (Code.region id ops draw).wpIn (Fw ro) n P Q a w:=by
 unfold z0h at htr;split at htr<;>try(cases htr;done)
 rename_i sops' hseq;split at htr<;>try(cases htr;done)
 rename_i hok;cases htr;obtain⟨s',hrun,hK⟩:=z6l (sops:=sops) (l:=sops) (j:=0) rfl h;obtain⟨hlen,hspec⟩:=z19 hseq;have hlen':ops.size=sops.length:=by omega
 have hdf:∀(i:Nat) (o:Oper),ops[i]?=some o→∀c,o.op≠Op.defer c:=fun i o ho=>by
  obtain⟨so,_,hto⟩:=hspec i o (by grind);exact zhL hto
 have hfi:∀l,z24 sops l s.fs:=fun l i _ o ho d hd=>hf d (List.mem_flatMap.2 ⟨o,gM ho,hd⟩);have hmk:=z4W hok;rw[←List.range_eq_range',←hlen']at hrun;cases draw with
 |false=>
  refine wpIn_region (zp3 hdf hLO _ _ _ ?_);have key:∀(l:List Nat) (s:FS) (a:Act) (w:World) (E:Env),l.Nodup→Sim B s a w E→z24 sops l s→z45 P g sops l s s'.fs→wpOps P ops Q l a w:=by
   intro l
   induction l with
   |nil=>intro s a w E _ hS _ hr;have hr:s=s'.fs:=hr;subst hr;exact hQ s' a w E hK hS
   |cons i l ih=>
    intro s a w E hnd hS hf hr;obtain⟨o,s1,ho,⟨C,hC,hst⟩,hr⟩:=hr;have hil:i<ops.size:=by grind
    have hoi:ops[i]?=some ops[i]:=Array.getElem?_eq_getElem hil;obtain⟨so,hso,hto⟩:=hspec i ops[i] (by simp);rw[ho]at hso;cases hso;refine z57 hm0 hN hG hX hC hS hoi hto (hf i (List.mem_cons_self ..) o ho) hst (fun a' w' E' hS'=> ?_);exact ih s1 a' w' E' (List.nodup_cons.1 hnd).2 hS' (z2q hmk ho (List.nodup_cons.1 hnd).1 (fun j hj=>hf j (List.mem_cons_of_mem _ hj)) ⟨C,hC,hst⟩) hr
  grind
 |true=>
  refine wpIn_region_any zk (zoB hdf hLO _ _ _ _ ?_);have hrest:zu ops.size (Array.replicate ops.size false)=List.range ops.size:=by
   unfold zu;simp_all
  refine zcX hm0 hN hG hX hseq hok (sf:=s'.fs) (fun a w E hS=>hQ s' a w E hK hS) ops.size _ s.fs a _ E (by simp) (fun i o ho hl=> ?_) (hS.same (Below.refl _ _).drew) (hfi _) (by grind) (by grind);have hil:=(gA ho).1;simp_all
theorem runI_of_opsW'{P:Program}{g:Glob}{sops:List SOper}{K:ES→Prop}:∀{l:List SOper} {j:Nat} {s:ES},(∀(i:Nat) o,l[i]?=some o→sops[j+i]?=some o)→zQ P g l K s→∃s',z45 P g sops (List.range' j l.length) s.fs s'.fs∧K s'
 |[],j,s,_,h=>⟨s,rfl,h⟩
 |o::l,j,s,hd,h=>by
  obtain⟨C,hC,e,he,h⟩:=h;have hj:sops[j]?=some o:=hd 0 o rfl;obtain⟨s',h1,h2⟩:=runI_of_opsW' (j:=j+1) (fun i o ho=>by rw[show j+1+i=j+(i+1) by omega];exact hd (i+1) o ho) h;refine⟨s',⟨o,s.fs.after o e,hj,⟨C,hC,by unfold step;rw[he];rfl⟩,?_⟩,h2⟩
  grind [ES.after_fs]
theorem zfZ{N:Nat}{H:Option Nat→Nat}{fps:Nat→Option Nat}{ops:Array Oper}{sops:List SOper}(htr:z0h P N H fps ops false=some sops)(k:Nat)(hk:k<sops.length)(hm0:B.m≤1000)(hN:B.N=N)(hN2:N≤1000)(hG:g.G B.w0)(hX:∀d b,B.X d b→g.n≤b)
  {g2:Glob} {s:ES} {K1:ES→Prop} (hf:∀d∈sops.flatMap SOper.news,z0I s.fs d) (h:zQ P g (sops.take k) K1 s) {a:Act} {w:World} {E:Env} (hS:Sim B s.fs a w E) {Q:Exit→Act→World→Prop} (hLO:¬LetsOut Q) (K2:Act→World→Prop)
  (hmid:∀s1 a w E,K1 s1→Sim B s1.fs a w E→wpOpIn (Fw ro) n P ops Q k K2 a w)
  (hpost:∀a w,K2 a w→∃(B2:Base) (s2:ES) (E2:Env) (K3:ES→Prop),B2.m≤1000∧B2.N=N∧g2.G B2.w0∧(∀d b,B2.X d b→g2.n≤b)∧Sim B2 s2.fs a w E2∧(∀d∈sops.flatMap SOper.news,z0I s2.fs d)∧zQ P g2 (sops.drop (k+1)) K3 s2∧∀s3 a' w' E',K3 s3→Sim B2 s3.fs a' w' E'→Q .normal a' w'):
  (Code.region id ops false).wpIn (Fw ro) n P Q a w:=by
 unfold z0h at htr;split at htr<;>try(cases htr;done)
 rename_i sops' hseq;split at htr<;>try(cases htr;done)
 rename_i hok;cases htr;subst hN;obtain⟨hlen,hspec⟩:=z19 hseq;have hlen':ops.size=sops.length:=by omega
 have hdf:∀(i:Nat) (o:Oper),ops[i]?=some o→∀c,o.op≠Op.defer c:=fun i o ho=>by
  obtain⟨so,_,hto⟩:=hspec i o (by grind);exact zhL hto
 have hfi:∀l (s:ES),(∀d∈sops.flatMap SOper.news,z0I s.fs d)→z24 sops l s.fs:=fun l s hf i _ o ho d hd=>hf d (List.mem_flatMap.2 ⟨o,gM ho,hd⟩);have hmk:=z4W hok;have key:∀(g:Glob) (B':Base),B'.m≤1000→B'.N=B.N→g.G B'.w0→(∀d b,B'.X d b→g.n≤b)→∀(r:List Nat) (sf:FS),(∀a w E,Sim B' sf a w E→wpOpsIn (Fw ro) n P ops Q r a w)→∀(l:List Nat) (s:FS) (a:Act) (w:World) (E:Env),l.Nodup→Sim B' s a w E→z24 sops l s→z45 P g sops l s sf→wpOpsIn (Fw ro) n P ops Q (l++r) a w:=by
  intro g B' hm' hN' hG' hX' r sf hr0 l
  induction l with
  |nil=>intro s a w E _ hS _ hr;have hr:s=sf:=hr;subst hr;exact hr0 a w E hS
  |cons i l ih=>
   intro s a w E hnd hS hf hr;obtain⟨o,s1,ho,⟨C,hC,hst⟩,hr⟩:=hr;have hil:i<ops.size:=by grind
   have hoi:ops[i]?=some ops[i]:=Array.getElem?_eq_getElem hil;obtain⟨so,hso,hto⟩:=hspec i ops[i] (by simp);rw[ho]at hso;cases hso;rw[←hN']at hto;refine z8Q (hdf i) hLO (z57 hm' (by omega) hG' hX' hC hS hoi hto (hf i (List.mem_cons_self ..) o ho) hst (fun a' w' E' hS'=> ?_));exact ih s1 a' w' E' (List.nodup_cons.1 hnd).2 hS' (z2q hmk ho (List.nodup_cons.1 hnd).1 (fun j hj=>hf j (List.mem_cons_of_mem _ hj)) ⟨C,hC,hst⟩) hr
 refine wpIn_region ?_;have hsplit:List.range ops.size=List.range' 0 k++k::List.range' (k+1) (sops.length-(k+1)):=by
  rw[hlen',List.range_eq_range',←List.range'_succ,show sops.length=k+(sops.length-(k+1)+1) by omega,←List.range'_append];simp;omega
 rw[hsplit];have hrun1:∃s',z45 P g sops (List.range' 0 k) s.fs s'.fs∧K1 s':=by
  have:=runI_of_opsW' (sops:=sops) (j:=0) (fun i o ho=>by rw[Nat.zero_add];rw[List.getElem?_take]at ho;split at ho;exact ho;cases ho) h
  grind
 obtain⟨s1,hrun1,hK1⟩:=hrun1;refine key g B hm0 rfl hG hX _ s1.fs (fun a1 w1 E1 hS1=> ?_) _ s.fs a w E List.nodup_range' hS (hfi _ s hf) hrun1;refine wpOpIn_mono (fun a2 w2 h2=> ?_) (hmid s1 a1 w1 E1 hK1 hS1);obtain⟨B2,s2,E2,K3,p1,p2,p3,p4,p5,p6,p7,p8⟩:=hpost a2 w2 h2;have hrun3:∃s',z45 P g2 sops (List.range' (k+1) (sops.length-(k+1))) s2.fs s'.fs∧K3 s':=by
  have:=runI_of_opsW' (sops:=sops) (j:=k+1) (fun i o ho=>by rwa [List.getElem?_drop]at ho) p7
  grind
 obtain⟨s3,hrun3,hK3⟩:=hrun3;have:=key g2 B2 p1 p2 p3 p4 [] s3.fs (fun a3 w3 E3 hS3=>p8 s3 a3 w3 E3 hK3 hS3) _ s2.fs a2 w2 E2 List.nodup_range' p5 (hfi _ s2 p6) hrun3
 grind
end
def z2w:SCode→Bool
 | .skip| .ret| .exit _| .reg _ _=>true
 | .seq a b=>z2w a&&z2w b
 | .cond _ a b=>z2w a&&z2w b
 | .block _ a=>z2w a
 |_=>false
section
variable{P:Program}{H:Nat→Option Nat→Nat}{Fp:Nat→List (Nat→Option Nat)}{K:Nat→List Nat}{B:Base}{g:Glob}{ro:Option Nat}{n:Nat}
theorem zgN{B:Base}{Q:SExit→ES→Prop}:¬LetsOut (fun x a' w'=>∃e s' E',x=SExit.to e∧Q e s'∧Sim B s'.fs a' w' E'):=by
 rintro⟨a,w,e,s',E',h,_⟩;cases e<;>cases h
theorem zaq(zk:P.follows .mixedOrders=true)(hm0:B.m≤1000)(hN:B.N≤1000)(hG:g.G B.w0)(hX:∀d b,B.X d b→g.n≤b):∀{c:Code} {sc:SCode},zh P B.N H Fp K c=some sc→z2w sc=true→∀{Q:SExit→ES→Prop} {s:ES},swp P g sc Q s→∀{a:Act} {w:World} {E:Env},Sim B s.fs a w E→
  c.wpIn (Fw ro) n P (fun x a' w'=>∃e s' E',x=SExit.to e∧Q e s'∧Sim B s'.fs a' w' E') a w:=by
 intro c
 induction c with
 |skip=>
  intro sc h hnr Q s hs a w E hS;simp only[zh]at h;cases h;exact wpIn_skip ⟨.normal,s,E,rfl,hs,hS⟩
 |exit id=>
  intro sc h hnr Q s hs a w E hS;simp only[zh]at h;cases h;exact wpIn_exit ⟨.exit id,s,E,rfl,hs,hS⟩
 |ret=>
  intro sc h hnr Q s hs a w E hS;simp only[zh]at h;cases h;exact wpIn_ret ⟨.ret,s,E,rfl,hs,hS⟩
 |region id ops draw=>
  intro sc h hnr Q s hs a w E hS;simp only[zh]at h;split at h
  ·cases h;cases hnr
  ·split at h
   ·cases h;cases hnr
   cases h;obtain⟨al,hal,hs⟩:=hs;have key:∀(Hs:List ((Option Nat→Nat)×(Nat→Option Nat))),al∈z1O P B.N ops draw Hs→∃H,∃F:Nat→Option Nat,z0h P B.N H F ops draw=some al.2∧al.1=al.2.flatMap SOper.news:=by
    intro Hs
    induction Hs<;>grind [z1O,only]
   obtain⟨H',F',htr,hn⟩:=key _ hal;refine zcK zk hm0 hN hG hX htr (s:=s.fgt al.1) (fun d hd=>z1J s (by grind)) hs (z1K hS al.1) zgN (fun s' a' w' E' hK hS'=>⟨.normal,s'.kill _,E',rfl,hK,z5M hS' _⟩)
 |seq a b iha ihb=>
  intro sc h hnr Q s hs ac w E hS;simp only[zh]at h;split at h<;>try(cases h;done)
  rename_i a' b' ha hb;cases h;simp only[z2w,Bool.and_eq_true]at hnr;refine wpIn_seq (wpIn_mono (iha ha hnr.1 hs hS) ?_);rintro x a2 w2 ⟨e,s2,E2,rfl,hq,hS2⟩;cases e with
  |normal=>exact ihb hb hnr.2 hq hS2
  |exit id=>exact⟨.exit id,s2,E2,rfl,hq,hS2⟩
  |ret=>exact⟨.ret,s2,E2,rfl,hq,hS2⟩
  |pan z=>exact⟨.pan z,s2,E2,rfl,hq,hS2⟩
 |cond cnd a b iha ihb=>
  intro sc h hnr Q s hs ac w E hS;simp only[zh]at h;split at h<;>try(cases h;done)
  cases h;simp only[z2w,Bool.and_eq_true]at hnr;obtain⟨t,h1,h2⟩:=hs;have hv:=val_rel (y:=.bool t) (zj hS h1) rfl;refine wpIn_cond hv ?_
  grind
 |block id a ih=>
  intro sc h hnr Q s hs ac w E hS;obtain⟨a',ha,rfl⟩:=gO h;refine wpIn_block (wpIn_mono (ih ha hnr hs hS) ?_);rintro x a2 w2 ⟨e,s2,E2,rfl,hq,hS2⟩;cases e with
  |normal=>exact⟨.normal,s2,E2,rfl,hq,hS2⟩
  |ret=>exact⟨.ret,s2,E2,rfl,hq,hS2⟩
  |pan z=>exact⟨.pan z,s2,E2,rfl,hq,hS2⟩
  |exit j=>
   simp only[SExit.to,Exit.inBlock]
   grind [only,z1s]
 |loop a ih=>
  intro sc h hnr;obtain⟨a',ha,rfl⟩:=gO h;cases hnr
 |rangeFunc x y c d ih1 ih2=>
  intro sc h hnr;simp only[zh]at h;cases h;cases hnr
 |_=>grind [zh]
end
end
section
section
variable{B:Base}{s:FS}{a:Act}{w w':World}{E:Env}{I:List Nat}{N:Nat}
theorem Sim.setPr(h:Sim B s a w E){pr:List (Nat×Obj)}(hp:∀p∈pr,mark p.2=true∧w.heap[p.1]?=some p.2)(hq:∀p∈pr,∃q∈B.pr,q.1=p.1):Sim { B with pr:=pr } s a w E:=
 ⟨⟨let⟨l,h0,h1,h2,h3⟩:=h.defers.col;⟨l,h0,h1,h2,fun D hD=>⟨(h3 D hD).1,fun p hp e=>let⟨q,h4,h5⟩:=hq p hp;(h3 D hD).2.1 q h4 (h5.trans e),(h3 D hD).2.2⟩⟩,hp⟩,h.size,h.tmp,⟨h.mem.box,h.mem.row,h.mem.bb,h.mem.br,h.mem.rr,h.mem.lt,h.mem.low,h.mem.keep,h.mem.knew,⟨h.mem.pas.β,h.mem.pas.γ,h.mem.pas.row⟩⟩,h.itr,h.ii⟩
theorem Sim.act(h:Sim B s a w E){a2:Act}(hsz:a2.tmps.size=B.N)(hd:a2.defers=B.ds)(ht:∀k x,s.t k=some x→RelT w E s.r x (a2.tmps.getD k undef)):Sim B s a2 w E:=
 ⟨by rw[hd];exact⟨⟨[],fun _=>rfl,.nil,rfl,fun _ h=>by cases h⟩,h.defers.pr⟩,hsz,fun k x hx=>⟨(h.tmp k x hx).1,ht k x hx⟩,h.mem,h.itr,h.ii⟩
theorem zdm(hS:Sim B s a w E)(hI:I.Nodup){os:List MO}(hos:seqO (fun d=>(s.mo d).bind (MO.ren (rhoIn I))) I=some os){a2:Act}{pr:List (Nat×Obj)}(hsz:a2.tmps.size=N)(hd:a2.defers=[])(hp:∀p∈pr,mark p.2=true∧w.heap[p.1]?=some p.2)(ts:List (Nat×TV))
  (hts:∀k x',(k,x')∈ts→k<N∧RelT w (zz E I) (zx os) x' (a2.tmps.getD k undef)):
  Sim { start w (zz E I) os N with pr:=pr } (ES.fs ⟨ts,numB 1000 os,numR 1000 os,[]⟩) a2 w (zz E I):=by
 have hMp:=z4N hS hI hos;have hb:(ES.fs ⟨ts,numB 1000 os,numR 1000 os,[]⟩).b=z0k os:=by funext d;show lk (numB 1000 os) d=_;rw[z9E];rfl
 have hr:(ES.fs ⟨ts,numB 1000 os,numR 1000 os,[]⟩).r=zx os:=by funext d;show lk (numR 1000 os) d=_;rw[z9F];rfl
 have hmem:∀{k:Nat} {x:TV},lk ts k=some x→(k,x)∈ts:=by
  clear hts hb hr
  induction ts<;>grind [only,lk,Nat.eq_of_beq_eq_true,List.mem_cons_self,List.mem_cons_of_mem]
 refine⟨by rw[hd];exact⟨⟨[],fun _=>rfl,.nil,rfl,fun _ h=>by cases h⟩,hp⟩,hsz,fun k x hx=> ?_,?_,fun d z p h=>(by cases h),fun d d' q q' h=>(by cases h)⟩
 ·rw[hr];exact hts k x (hmem hx)
 ·rw[hb,hr];exact⟨hMp.box,hMp.row,hMp.bb,hMp.br,hMp.rr,hMp.lt,hMp.low,hMp.keep,hMp.knew,⟨hMp.pas.β,hMp.pas.γ,hMp.pas.row⟩⟩
theorem zbD{keep:Bool}(hS:Sim B s a w E)(hI:I.Nodup)(hm0:B.m≤1000){k:Nat}(hfr:∀q<4,z0I s (newId k q)){os os':List MO}(hos:seqO (fun d=>(s.mo d).bind (MO.ren (rhoIn I))) I=some os)
  (hok:moOk os os'=true) {us:List (Nat×MO)} (hus:outs (rhoOut I k) 0 os'=some us) {pr:List (Nat×Obj)} {s':ES} {a':Act} {E':Env} (hS':Sim { start w (zz E I) os N with pr:=pr } s'.fs a' w' E') {y:TV} (hex:exitR [] keep os.length s'=some (y,os')):
  ∃E2,Sim B (s.upd none (.mem us)) a w' E2:=by
 obtain⟨E1,m1,_,l1⟩:=zem (ds:=[]) (y0:=.tuple []) (v:=.tuple #[]) hok (hS'.setPr (pr:=[]) (fun _ h=>by cases h) (fun _ h=>by cases h)) (.tuple [] [] rfl (fun j c v h=>by simp at h)) ((zct (F:=⟨0,.skip,[],keep⟩) rfl).symm.trans hex);exact⟨_,(z6t hS hI hm0 hfr hos hok hus m1 l1 none).1⟩
theorem Sim.freeze0(h:Sim B s a w E){d:Nat}{ps:List PV}(hd:s.b d=some (ps.map TV.pv)):
  ∃K',Sim B { s with b:=fun e=>if e=d then none else s.b e } a w { E with K:=K' }∧RelT w { E with K:=K' } s.r (.pv (.el ps)) (.pointer (some ⟨E.β d,0,none⟩))∧∀b o,E.K b o→K' b o:=by
 obtain⟨hbx,hq⟩:=h.mem.box d _ hd;have hk:∀b o u,E.K b o→w.cell? ⟨b,o,none⟩=some u→(E.K b o∨(b=E.β d∧o<ps.length))∧w.cell? ⟨b,o,none⟩=some u:=fun b o u h1 h2=>⟨.inl h1,h2⟩
 have hmono:∀{x:TV} {v:Value},RelT w E s.r x v→RelT w { E with K:=fun b o=>E.K b o∨(b=E.β d∧o<ps.length) } s.r x v:=fun hx=>hx.mono hk (fun _ _=>⟨rfl,rfl⟩) (fun _ _ _ _ _ hd=> .inl ⟨hd,rfl⟩) (Maps.refl w);have hb':∀{e:Nat} {cs:List TV},(if e=d then none else s.b e)=some cs→e≠d∧s.b e=some cs:=fun {e cs} he=>by
  grind
 refine⟨fun b o=>E.K b o∨(b=E.β d∧o<ps.length),⟨h.defers,h.size,fun k x hx=>⟨(h.tmp k x hx).1,hmono (h.tmp k x hx).2⟩,⟨fun e cs he=> ?_,fun e ty W n he=> ?_,fun e e' c c' h1 h2 h3=>h.mem.bb e e' c c' (hb' h1).2 (hb' h2).2 h3,fun e e' c q k cap h1 h2 h3=>h.mem.br e e' c q k cap (hb' h1).2 h2 h3,h.mem.rr,fun k o ho=> ?_,h.mem.low,fun k o u h1 h2=>⟨.inl (h.mem.keep k o u h1 h2).1,(h.mem.keep k o u h1 h2).2⟩,fun k o ho=> ?_,⟨h.mem.pas.β,h.mem.pas.γ,h.mem.pas.row⟩⟩,h.itr,h.ii⟩,?_,fun _ _ h=> .inl h⟩
 ·obtain⟨hed,he⟩:=hb' he;obtain⟨h1,h2⟩:=h.mem.box e cs he;refine⟨⟨h1.lt,h1.obj,h1.fz,fun j c hj=> ?_,fun o ho=> ?_⟩,h2⟩
  ·obtain⟨v,c1,c2,c3⟩:=h1.cell j c hj
   grind
  ·rcases ho with ho|⟨ho,_⟩
   ·exact h1.out o ho
   ·exact hed (h.mem.bb e d _ _ he hd ho)
 ·rcases h.mem.row e ty W n he with h1|⟨k,cap,h1,h2,h3⟩
  ·grind
  ·refine .inr ⟨k,cap,h1,h2,⟨h3.cells,h3.le,h3.max,fun o ho=> ?_⟩⟩;rcases ho with ho|⟨ho,_⟩
   ·exact h3.out o ho
   ·exact absurd ho.symm (h.mem.br d e _ _ k cap hd he h1)
 ·rcases ho with ho|⟨rfl,_⟩
  ·exact h.mem.lt k o ho
  ·exact hbx.lt
 ·rcases ho with ho|⟨rfl,_⟩
  ·exact h.mem.knew k o ho
  ·grind
 ·have hcell:∀(j:Nat) c,ps[j]?=some c→∃v,w.cell? ⟨E.β d,j,none⟩=some v∧one v∧RelV w E.K c v:=fun j c hj=>by
   obtain⟨v,c1,c2,c3⟩:=hbx.cell j (.pv c) (by grind);cases c3 with|pv c3=>exact⟨v,c1,c2,c3⟩
  refine .pv (.el ps (E.β d) 0 (fun j=>(w.cell? ⟨E.β d,j,none⟩).getD undef) (fun j c hj=> ?_) (fun j c hj=> ?_))
  ·grind
  ·obtain⟨v,c1,c2,c3⟩:=hcell j c hj;rw[c1];exact c3.mono hk
theorem zhu{n:Nat}(hS:Sim B s a w E){os:List MO}(hos:seqO (fun d=>(s.mo d).bind (MO.ren (rhoIn I))) I=some os)(hn:n≤B.w0.heap.size)(hX:∀d b,B.X d b→n≤b):∀d b,z1W (zz E I) os d b→n≤b:=by
 intro d b hx;obtain⟨hlen,hB,hR⟩:=z4v hos;rcases hx with⟨cs,e1,e2⟩|⟨⟨e,W,m⟩,cap,e1,e2⟩
 ·obtain⟨j,rfl,hj⟩:=z2s e1;obtain⟨i,c,b1,b2,_⟩:=hB j cs hj;have e3:E.β i=b:=by grind [only,zz,getD_of]
  rcases(hS.mem.box i c b2).2 with e4|e4<;>grind
 ·obtain⟨j,rfl,hj⟩:=z0V e1;obtain⟨i,b1,b2,b3⟩:=hR j e W m hj;have e3:E.γ i=some (b,cap):=by grind [only,zz,getD_of]
  rcases hS.mem.row i e W m b3 with⟨e4,_⟩|⟨k,cap',e4,e5,_⟩<;>grind
end
end
section
variable{B:Base}{s:FS}{a:Act}{w:World}{E:Env}
theorem z7E{W:Nat}:∀{es:List (List PV)},(∀cs∈es,cs.length=W)→∀{i j:Nat} {cs:List PV} {c:PV},es[i]?=some cs→cs[j]?=some c→es.flatten[i*W+j]?=some c
 |[],_,i,j,cs,c,h,_=>by simp at h
 |x::es,hW,i,j,cs,c,h,hc=>by
  cases i with
  |zero=>
   grind
  |succ i=>
   have:=z7E (es:=es) (fun y hy=>hW y (List.mem_cons_of_mem _ hy)) (i:=i) (by grind) hc
   grind
theorem Sim.freezeS(h:Sim B s a w E){d W:Nat}{es:List (List PV)}(hd:s.b d=some (es.flatten.map TV.pv))(hW:∀cs∈es,cs.length=W):
  ∃K',Sim B { s with b:=fun e=>if e=d then none else s.b e } a w { E with K:=K' }∧∀c v,RelT w { E with K:=K' } s.r (.bs d 0 es.length c) v→RelT w { E with K:=K' } s.r (.pv (.sl W es)) v:=by
 obtain⟨K',h1,h2,_⟩:=h.freeze0 hd;refine⟨K',h1,fun c v hv=> ?_⟩;cases hv with
 |bs _ _ _ _ C hn hc hm=>
 cases h2 with
 |pv h2=>
 cases h2 with
 |el _ _ _ f hf hs=>
 refine .pv (.sl W es (E.β d) 0 C (some ⟨E.β d,0,none⟩) (fun i j=>f (i*W+j)) (fun _=>rfl) (by omega) hm hW (fun i j cs c e1 e2=> ?_) (fun i j cs c e1 e2=>hs _ _ (z7E hW e1 e2)))
 grind [z7E]
theorem zfb(s:ES)(d:Nat):(fun e=>if e=d then none else s.fs.b e)=lk (drp [d] s.b):=by
 funext e;rw[z4A];show(if e=d then none else lk s.b e)=_
 grind [has,Nat.beq_refl,only,z4f]
theorem z69{s:ES}{k d W c:Nat}{es:List (List PV)}(hd:lk s.b d=some (es.flatten.map TV.pv))(hW:∀cs∈es,cs.length=W)(hk:lk s.t k=some (.bs d 0 es.length c)):(⟨sv s.t k (.pv (.sl W es)),drp [d] s.b,s.r,s.i⟩:ES).Lw s:=by
 intro B a w E _ _ hS;obtain⟨K',h1,h2⟩:=hS.freezeS hd hW;refine⟨{ E with K:=K' },?_⟩;have:=h1.reT (k:=k) (x:=.bs d 0 es.length c) (y:=.pv (.sl W es)) hk (h2 c)
 grind [sv,drp,FS.setT,zfb,only,ES.fs,z1V]
theorem zr6{s:ES}{x j d W c:Nat}{cs:List TV}{es:List (List PV)}(hd:lk s.b d=some (es.flatten.map TV.pv))(hW:∀cs∈es,cs.length=W)(hx:x≠d)(hk:lk s.b x=some cs)(hj:cs[j]?=some (.bs d 0 es.length c)):(⟨s.t,sv (drp [d] s.b) x (cs.set j (.pv (.sl W es))),s.r,s.i⟩:ES).Lw s:=by
 intro B a w E _ _ hS;obtain⟨K',h1,h2⟩:=hS.freezeS hd hW;refine⟨{ E with K:=K' },?_⟩;have:=h1.reB (k:=x) (cs:=cs) (ds:=cs.set j (.pv (.sl W es))) (by show(if x=d then none else s.fs.b x)=_;rw[if_neg hx];exact hk) (fun i y hi=>by
  by_cases hij:j=i
  ·subst hij;have hl:j<cs.length:=(gJ hj).1;rw[List.getElem?_set_self hl]at hi;cases hi;exact⟨_,hj,h2 c⟩
  ·rw[List.getElem?_set_ne hij]at hi;exact⟨y,hi,fun v hv=>hv⟩)
 have he:(⟨s.t,sv (drp [d] s.b) x (cs.set j (.pv (.sl W es))),s.r,s.i⟩:ES).fs=FS.setB { s.fs with b:=fun e=>if e=d then none else s.fs.b e } x (cs.set j (.pv (.sl W es))):=by
  rw[zfb];simp only[ES.fs,FS.setB,z1V]
 rw[he];exact this
end
section
theorem zr7{s:ES}{k d:Nat}{ps:List PV}(hd:lk s.b d=some (ps.map TV.pv))(hk:lk s.t k=some (.ptr d 0)):(⟨sv s.t k (.pv (.el ps)),drp [d] s.b,s.r,s.i⟩:ES).Lw s:=by
 intro B a w E _ _ hS;obtain⟨K',h1,h2,_⟩:=hS.freeze0 hd;refine⟨{ E with K:=K' },?_⟩;have:=h1.reT (k:=k) (x:=.ptr d 0) (y:=.pv (.el ps)) hk (fun v hv=>by cases hv;exact h2)
 grind [sv,drp,FS.setT,zfb,only,ES.fs,z1V]
section
variable{P:Program}{g:Glob}{N:Nat}{a b c:SCode}{Q Q':SExit→ES→Prop}{s s0:ES}
@[congr] theorem sem_congr (h:s=s0):z47 P g N c Q s=z47 P g N c Q s0:=by rw[h]
theorem zg5(h:z47 P g N c Q s)(hq:∀e s,Q e s→Q' e s):z47 P g N c Q' s:=fun H Fp K code ht B a w E h1 h0 h2 h3 h4 h5 h6=>wp_mono (h H Fp K code ht B a w E h1 h0 h2 h3 h4 h5 h6) (by
 rintro x a' w' ⟨e,s',E',q1,q2,q3⟩;exact⟨e,s',E',q1,hq _ _ q2,q3⟩)
theorem z42(hl:s0.Lw s)(h:z47 P g N c Q s0):z47 P g N c Q s:=by
 intro H Fp K code ht B a w E h1 h0 h2 h3 h4 h5 h6;obtain⟨E',h7⟩:=hl B a w E h2 h3 h6;exact h H Fp K code ht B a w E' h1 h0 h2 h3 h4 h5 h7
theorem zqq(h:z47 P g N a (z2y (z47 P g N b Q) Q) s):z47 P g N (.seq a b) Q s:=by
 intro H Fp K code ht B ac w E h1 h0 h2 h3 h4 h5 h6;cases code with
 |seq x y=>
  simp only[zh]at ht;split at ht<;>try(cases ht;done)
  rename_i a' b' ha hb;cases ht;refine wp_seq (wp_mono (h H Fp K x ha B ac w E h1 h0 h2 h3 h4 h5 h6) ?_);rintro z a2 w2 ⟨e,s2,E2,rfl,hq,hS2⟩;cases e with
  |normal=>exact hq H Fp K y hb B a2 w2 E2 h1 h0 h2 h3 h4 h5 hS2
  |exit id=>exact⟨.exit id,s2,E2,rfl,hq,hS2⟩
  |ret=>exact⟨.ret,s2,E2,rfl,hq,hS2⟩
  |pan z=>exact⟨.pan z,s2,E2,rfl,hq,hS2⟩
 |skip|exit id|ret|rangeFunc _ _ _ _=>simp[zh]at ht
 |region id ops draw=>
  grind [only,zh]
 |cond x y z=>
  grind [only,zh]
 |block id x=>
  grind [only,zh,Option.map_eq_some_iff]
 |loop x=>
  grind [only,zh,Option.map_eq_some_iff]
 |_=>simp[zh]at ht
theorem z02(zk:P.follows .mixedOrders=true)(h:swp P g a (z2y (z47 P g N b Q) Q) s):z47 P g N (.seq a b) Q s:=zqq (z2K zk h)
end
theorem zmE{P:Program}{g:Glob}{f:Nat}{H:Nat→Option Nat→Nat}{Fp:Nat→List (Nat→Option Nat)}{K:Nat→List Nat}{keep:Bool}{F:SFunc}(zk:P.follows .mixedOrders=true)(hF:zU P f H Fp K keep=some F){xs:List TV}{os os':List MO}{y:TV}(hn:Nat.ble xs.length F.N=true)(hos:Nat.ble os.length 1000=true)(hmo:moOk os os'=true)
  (h:z47 P g F.N F.code (PostR F.res F.keep os.length y os') (startE xs os)):SCalls P g f xs os y os':=
 za4 zk hF (Nat.le_of_ble_eq_true hn) (Nat.le_of_ble_eq_true hos) hmo (zg5 h fun e s he=>by
  cases e with
  |normal=>exact⟨.inr rfl,by rw[z9t];exact he⟩
  |ret=>exact⟨.inl rfl,by rw[z9t];exact he⟩
  |exit id=>exact he.elim
  |pan z=>exact he.elim)
theorem z2M{P:Program}{g:Glob}{f:Nat}{H:Nat→Option Nat→Nat}{Fp:Nat→List (Nat→Option Nat)}{K:Nat→List Nat}{keep:Bool}{F:SFunc}(zk:P.follows .mixedOrders=true)(hF:zU P f H Fp K keep=some F){xs:List TV}{y:TV}(hn:Nat.ble xs.length F.N=true)
  (h:z47 P g F.N F.code (Post0 F.res y) (startE xs [])):SCalls P g f xs [] y []:=by
 have key:∀s,ansW y (resT s.fs F.res)→exitR F.res F.keep 0 s=some (y,[]):=by
  intro s he;cases hr:resT s.fs F.res with
  |none=>rw[hr]at he;exact he.elim
  |some y0=>
   rw[hr]at he;obtain⟨h1,h2⟩:=he;simp[exitR,exitF,hr,idsFrom,h1,zA,h2,seqO]
 refine zmE zk hF hn rfl rfl (zg5 h fun e s he=> ?_);cases e with
 |normal=>exact key s he
 |ret=>exact key s he
 |exit id=>exact he.elim
 |pan z=>exact he.elim
end
theorem zlM{w:World}{E:Env}{N:Nat}:∀d b,¬(start w E [] N).X d b:=fun d b hx=>by
 rcases hx with⟨cs,h1,_⟩|⟨q,cap,h1,_⟩<;>grind [z0k,zx]
theorem z17{w:World}{E:Env}{N:Nat}:∀d,¬(start w E [] N).old d:=fun d h=>by have h1:=h.1;have h2:d<1000+0:=h.2;omega
theorem z49{e W n d:Nat}{q:Nat×Nat×Nat}(h:zx [.row e W n] d=some q):d=1000∧q=(e,W,n):=by
 grind [zx]
theorem z6a{cs:List TV}{d:Nat}{c:List TV}(h:z0k [.box cs] d=some c):d=1000∧c=cs:=by
 grind [z0k]
theorem z4Y{e W n d:Nat}:z0k [.row e W n] d=none:=by
 grind [z0k]
theorem z4Z{cs:List TV}{d:Nat}:zx [.box cs] d=none:=by
 grind [zx]
theorem z8F{X:Nat→Nat→Prop}{w w':World}(h:Below w.heap.size w w'):Low X w w':=⟨h.os,h.tape,h.output,h.size,fun k hk _=>h.block k hk⟩
theorem zfE{P:Program}{g:Glob}{f:Nat}{xs:List TV}{e W:Nat}{es:List (List PV)}(hW:0<W)(hb:z3I P f)
  (h:∀(w:World) (E:Env) (us:List Value),g.G w→xs.length=us.length→(∀(j:Nat) x v,xs[j]?=some x→us[j]?=some v→RelT w E (zx []) x v)→
   ∃(news:List Value) (F:Nat→Nat→Value),News w E.K W es news F∧Calls P f us.toArray w fun o w'=>∃v',o=.returned v'∧w'.ownsRow w.heap.size e W v' es.length news∧Below w.heap.size w w'):
  SCalls P g f xs [] (.own 1000 W es) [.row e W es.length]:=by
 refine⟨hb,fun w E us hG hm hX hl hr=> ?_⟩;obtain⟨news,F,hn,hc⟩:=h w E us hG hl hr;refine hc.mono ?_;rintro o w' ⟨v',rfl,hown,hbel⟩;have hk0:∀b o u,E.K b o→w.cell? ⟨b,o,none⟩=some u→w'.cell? ⟨b,o,none⟩=some u:=fun b o u h1 h2=>(hbel.cell (z1j h2)).trans h2;obtain⟨hlen,hown⟩:=hown;rcases hown with⟨rfl,h0⟩|⟨k,cap,cur,rfl,hk,hcur,hle,hmax,hsz,htake⟩
 ·have hes:es=[]:=List.eq_nil_of_length_eq_zero h0;subst hes;refine⟨_,{ E with γ:=fun j=>if j=1000 then none else E.γ j },rfl,⟨fun d cs hd=>(by grind [z4Y]),fun d e' W' n hd=> ?_,fun d d' cs cs' hd=>(by grind [z4Y]),fun d d' cs q k cap hd=>(by grind [z4Y]),fun d d' q q' k cap cap' h1 h2 h3=> ?_,fun k o ho=>Nat.lt_of_lt_of_le (hm.lt k o ho) hbel.size,z8F hbel,fun k o u h1 h2=>⟨h1,hk0 k o u h1 h2⟩,fun k o h1=> .inl h1,⟨fun d hd=>absurd hd (z17 d),fun d hd=>absurd hd (z17 d),fun d e W n hd=>absurd hd (z17 d)⟩⟩,?_,⟨fun d h1 h2=>absurd h2 (by omega),fun d h1 h2=>absurd h2 (by omega),fun d e W n hd=>by simp[zx]at hd⟩⟩
  ·obtain⟨rfl,hq⟩:=z49 hd
   grind
  ·obtain⟨rfl,_⟩:=z49 h1;simp at h3
  ·refine .own 1000 W [] _ (.sl W [] 0 0 0 none (fun _ _=>undef) (by simp) (by simp) (Nat.zero_le _) (by simp) (by simp) (by simp)) (fun e' W' n hd=> ?_);obtain⟨_,hq⟩:=z49 hd;cases hq;exact⟨Nat.le_refl _,fun _=>⟨rfl,by simp[hdr]⟩⟩
 ·have hcell:∀(j:Nat) u,news[j]?=some u→w'.cell? ⟨k,j,none⟩=some u:=fun j u hj=>by
   have hj':j<es.length*W:=by grind
   have:=World.ownsRow.cellAt (w:=w') (base:=w.heap.size) (e:=e) (size:=W) (g:=k) (n:=es.length) (cap:=cap) (xs:=news) ⟨hlen,.inr ⟨k,cap,cur,rfl,hk,hcur,hle,hmax,hsz,htake⟩⟩ j hj'
   grind
  let K':Nat→Nat→Prop:=fun b o=>E.K b o∨(b=k∧o<es.length*W)
  have hkk:∀b o u,E.K b o→w.cell? ⟨b,o,none⟩=some u→K' b o∧w'.cell? ⟨b,o,none⟩=some u:=fun b o u h1 h2=>⟨.inl h1,hk0 b o u h1 h2⟩
  have hklt:k<w'.heap.size:=(gA hcur).1;refine⟨_,{ E with K:=K',γ:=fun j=>if j=1000 then some (k,cap)else E.γ j },rfl,⟨fun d cs hd=>(by grind [z4Y]),fun d e' W' n hd=> ?_,fun d d' cs cs' hd=>(by grind [z4Y]),fun d d' cs q k cap hd=>(by grind [z4Y]),fun d d' q q' k cap cap' h1 h2 h3 _=> ?_,fun b o ho=> ?_,z8F hbel,fun b o u h1 h2=>⟨.inl h1,hk0 b o u h1 h2⟩,fun b o h1=> ?_,⟨fun d hd=>absurd hd (z17 d),fun d hd=>absurd hd (z17 d),fun d e W n hd=>absurd hd (z17 d)⟩⟩,?_,⟨fun d h1 h2=>absurd h2 (by grind),fun d h1 h2=>absurd h2 (by grind),fun d e W n hd=>by simp[zx]at hd⟩⟩
  ·obtain⟨rfl,hq⟩:=z49 hd;cases hq;refine .inr ⟨k,cap,by simp,.inl hk,⟨⟨cur,hcur,hsz⟩,hle,hmax,fun o ho=> ?_⟩⟩;rcases ho with ho|⟨_,ho⟩
   ·exact absurd (hm.lt k o ho) (by omega)
   ·exact ho
  ·obtain⟨rfl,_⟩:=z49 h1
   grind [z49]
  ·rcases ho with ho|⟨rfl,_⟩
   ·exact Nat.lt_of_lt_of_le (hm.lt b o ho) hbel.size
   ·exact hklt
  ·rcases h1 with h1|⟨rfl,_⟩
   ·exact .inl h1
   ·exact .inr (.inl hk)
  ·refine .own 1000 W es _ (.sl W es k 0 cap _ F (fun _=>rfl) hle hmax hn.len (fun i j cs c h1 h2=> ?_) (fun i j cs c h1 h2=> ?_)) (fun e' W' n hd=> ?_)
   ·obtain⟨n1,n2,_⟩:=hn.at_ i j cs c h1 h2
    grind
   ·exact(hn.at_ i j cs c h1 h2).2.2.mono hkk
   ·obtain⟨_,hq⟩:=z49 hd;cases hq;exact⟨Nat.le_refl _,fun _=>⟨rfl,by simp[hdr]⟩⟩
def PV.flat:PV→Bool
 | .v _=>true
 | .sl _ []=>true
 |_=>false
theorem zn1{w:World}{K K':Nat→Nat→Prop}{p:PV}{v:Value}(hp:p.flat=true)(h:RelV w K p v):RelV w K' p v:=by
 cases h with
 |v=>exact .v _
 |sl W es b off cap p f hp' hcap hmax hW hc hs=>
  cases es with
  |nil=>exact .sl W [] b off cap p f hp' hcap hmax hW (by simp) (by simp)
  |cons x l=>simp[PV.flat]at hp
 |_=>simp[PV.flat]at hp
theorem SCalls.boxed{P:Program}{g:Glob}{f:Nat}{xs:List TV}{e W:Nat}{es:List (List PV)}(h:SCalls P g f xs [] (.own 1000 W es) [.row e W es.length])(hne:es≠[])(hfl:∀cs∈es,cs.length=W∧∀c∈cs,c.flat=true):
  SCalls P g f xs [] (.bs 1000 0 es.length es.length) [.box (es.flatten.map TV.pv)]:=by
 refine⟨h.1,fun w E us hG hm hX hl hr=>(h.2 w E us hG hm hX hl hr).mono ?_⟩;rintro o w' ⟨v,E',rfl,hM,hrel,hleft⟩;have hq:zx [.row e W es.length] 1000=some (e,W,es.length):=by simp[zx]
 cases hrel with
 |own _ _ _ _ hv hown=>
 obtain⟨_,hval⟩:=hown e W es.length hq;obtain⟨_,rfl⟩:=hval rfl;have hpos:0<es.length:=List.length_pos_iff.2 hne;rcases hM.row 1000 e W es.length hq with⟨_,h0⟩|⟨k,cap,hg,hk,hrow⟩
 ·omega
 have hk:w.heap.size≤k:=by
  rcases hk with hk|hk
  ·exact hk
  ·exact absurd hk (zlM _ _)
 rw[hg]at hv ⊢;obtain⟨cur,hcur,hsz⟩:=hrow.cells;obtain⟨b,off,cap',p,F,he,hp,_,_,hWs,hcs⟩:=z0L hv;have hpe:=hp hne;subst hpe;obtain⟨⟨rfl,rfl,_⟩,_,rfl⟩:=he;have hno:∀d,¬(start w E [] 0).old d:=z17;have hcl:cur.toList.length=cap*W:=by rw[Array.length_toList];exact hsz
 have htk:(cur.toList.take (es.length*W)).length=es.length*W:=by rw[List.length_take,hcl];exact Nat.min_eq_left (Nat.mul_le_mul_right W hrow.le)
 refine⟨_,{ E' with K:=fun b o=>E'.K b o∧b≠k,β:=fun j=>if j=1000 then k else E'.β j },rfl,⟨fun d cs hd=> ?_,fun d e' W' n hd=>(by rw[z4Z]at hd;cases hd),fun d d' cs cs' h1 h2 _=> ?_,fun d d' cs q k cap _ h2=>(by rw[z4Z]at h2;cases h2),fun d d' q q' k cap cap' h1=>(by rw[z4Z]at h1;cases h1),fun b o ho=>hM.lt b o ho.1,hM.low,fun b o u h1 h2=> ?_,fun b o h1=>hM.knew b o h1.1,⟨fun d hd=>absurd hd (hno d),fun d hd=>absurd hd (hno d),fun d e W n hd=>absurd hd (hno d)⟩⟩,?_,⟨fun d h1 h2=>absurd h2 (by simp;omega),fun d h1 h2=>absurd h2 (by simp;omega),fun d e W n hd=>by simp[zx]at hd⟩⟩
 ·obtain⟨rfl,rfl⟩:=z6a hd;refine⟨⟨(gA hcur).1,⟨_,_,_,hcur⟩,fun o=> ?_,fun j c hj=> ?_,fun o ho=>ho.2 rfl⟩,.inl hk⟩
  ·exact World.ownsRow.frozenAt (w:=w') (base:=0) (e:=e) (size:=W) (g:=k) (n:=es.length) (cap:=cap) (xs:=cur.toList.take (es.length*W)) ⟨htk,.inr ⟨k,cap,cur,rfl,Nat.zero_le _,hcur,hrow.le,hrow.max,hsz,rfl⟩⟩ o
  ·rw[List.getElem?_map]at hj;obtain⟨p,hp,rfl⟩:=gO hj;obtain⟨i,q,cs,h1,h2,rfl⟩:=z5Y (fun cs h=>(hfl cs h).1) hp;obtain⟨⟨_,c2,c3⟩,c4⟩:=hcs i q cs p h1 h2;rw[Nat.zero_add]at c2;exact⟨_,c2,c3,.pv (zn1 ((hfl cs (gM h1)).2 p (gM h2)) c4)⟩
 ·obtain⟨rfl,_⟩:=z6a h1;obtain⟨rfl,_⟩:=z6a h2;rfl
 ·obtain⟨h3,h4⟩:=hM.keep b o u h1 h2;refine⟨⟨h3,fun hb=> ?_⟩,h4⟩;have:b<w.heap.size:=z1j h2;omega
 ·have:(⟨(if(1000:Nat)=1000 then k else E'.β 1000),0,none⟩:Addr)=⟨k,0,none⟩:=by simp
  exact .bs (E:={ E' with K:=fun b o=>E'.K b o∧b≠k,β:=fun j=>if j=1000 then k else E'.β j }) 1000 0 es.length es.length cap (.inl ⟨Nat.le_refl _,hpos⟩) hrow.le hrow.max
end Go.Sh
end
