/- Merged texts: RegIn Wire4 Wire5. No statement of the program is proved here. -/
import Derived.Test.YtcpaleaajdilgaaDoorM16
import Derived.StillTailTactics
import Derived.TacticsIn
set_option linter.unusedSimpArgs false
set_option linter.unusedVariables false
set_option maxRecDepth 100000
set_option maxHeartbeats 8000000
section
namespace Go.Mor
open Go
section
structure Open(F:Fence):Prop where
 fn:∀f,F.fn f
 depth:F.depth=none
 calls:∀(n:Nat) (P:Program) (f:FuncId) (args:Array Value) (w:World) (R:Ending→World→Prop),Calls P f args w R→CallsIn F n P f args w R
theorem z8P:Open Fence.wide:=⟨fun _=>trivial,rfl,fun _ _ _ _ _ _ h=>callsIn_wide.2 h⟩
theorem z4J(l:Nat):Open (Fence.wide.inRound l):=⟨fun _=>trivial,rfl,fun _ _ _ _ _ _ h=>CallsIn.inRound l (callsIn_wide.2 h)⟩
def z3Q(ops:Array Oper):Bool:=ops.all fun o=>match o.op with| .defer _=>false|_=>true
theorem z6l{ops:Array Oper}(h:z3Q ops=true){i:Nat}{o:Oper}(hi:ops[i]?=some o):∀c,o.op≠ .defer c:=by
 intro c hc;have hlt:=(gA hi)
 obtain⟨hl,rfl⟩:=hlt;have:=Array.all_eq_true.1 h i hl;rw[hc]at this;cases this
section
variable{F:Fence}{n:Nat}{P:Program}{ops:Array Oper}{md:Region.Mode}{w:World}
theorem z5f(hF:Open F)(hnd:z3Q ops=true){i:Nat}{a:Act}{K:Act→Prop}{K':Act→World→Prop}{Q':Exit→Act→World→Prop}(h:∀a,K a→K' a w)(hh:stOp P ops w i K a):
  wpOpIn F n P ops Q' i K' a w:=by
 unfold stOp at hh;unfold wpOpIn;split
 ·rename_i ho;simp only[ho]at hh;exact h _ hh
 ·rename_i o ho;simp only[ho]at hh;split
  ·rename_i hw;simp only[hw,if_true]at hh;refine⟨fun f _=>hF.fn f,?_⟩;rw[Oper.semAt_eq _ _ _ (z6l hnd ho)];unfold Oper.still at hh;generalize(execOp a.eval o).run P w=r at*;cases r with
   |ok x w'=>
    cases x<;>simp only[Oper.stillUpon,Oper.uponIn]at hh ⊢
    ·obtain⟨rfl,hh⟩:=hh;exact h _ hh
    ·obtain⟨rfl,hh⟩:=hh;exact h _ hh
    ·obtain⟨rfl,v,hc,hh⟩:=hh;refine⟨fun hd=>(by rw[hF.depth]at hd;cases hd),hF.calls _ _ _ _ _ _ (hc.mono ?_)⟩;rintro e w'' ⟨rfl,rfl⟩;exact h _ hh
   |halt x w'=>exact hh.elim
  ·rename_i hw;simp only[hw]at hh;exact⟨fun f _=>hF.fn f,h _ hh⟩
theorem z2l(hF:Open F)(hnd:z3Q ops=true){m g:Nat}{L:Array Bool→Act→Prop}{Q':Exit→Act→World→Prop}(hL:∀listed a,L listed a→wpAnyIn F n P md ops Q' g listed a w):
  ∀(f:Nat) (listed:Array Bool) (a:Act),wpAnyL P md ops w m L f listed a→wpAnyIn F n P md ops Q' (f+g) listed a w
 |0,listed,a,h=>by rw[Nat.zero_add];exact hL _ _ h
 |f+1,listed,a,h=>by
  rw[show f+1+g=(f+g)+1 by omega];exact⟨fun h0=>absurd h0 h.1,fun i hi=>z5f hF hnd (fun a' h'=>z2l hF hnd hL f _ a' h') (h.2 i hi).2⟩
theorem z2H{Q':Exit→Act→World→Prop}:∀(l:List Oper) (k:Nat) (listed:Array Bool) (a:Act) (w:World),(∀j,l[j]?=ops[k+j]?)→
  Region.seqB md ops l.length k listed=true→wpListIn F n P ops Q' l a w→wpAnyIn F n P md ops Q' l.length listed a w
 |[],_,_,_,_,_,hB,h=>⟨by simpa [Region.seqB]using hB,h⟩
 |o::l,k,listed,a,w,hl,hB,h=>by
  have h0:ops[k]?=some o:=by simpa using(hl 0).symm
  simp only[List.length_cons,Region.seqB,Bool.and_eq_true,decide_eq_true_eq]at hB;refine⟨fun h1=>(by rw[hB.1]at h1;cases h1),fun i hi=> ?_⟩;rw[hB.1]at hi;have hik:i=k:=by simpa using hi
  subst hik;have hw:wpOpIn F n P ops Q' i (wpListIn F n P ops Q' l) a w:=by unfold wpOpIn;simp only[h0];exact h
  exact wpOpIn_mono (fun a' w' h'=>z2H l (i+1) _ a' w' (fun j=>by have:=hl (j+1);simpa [Nat.add_assoc,Nat.add_comm 1 j]using this) hB.2 h') hw
theorem z0o{id:Nat}{Q:Exit→Act→World→Prop}{a:Act}{w:World}{l:List Oper}(hF:Open F)(m:Nat)(hm:P.follows .mixedOrders=true)(hB:(Region.lexTailB .any l.toArray m&&z3Q l.toArray)=true)
  (h:wpStill P l.toArray w.drew (fun a'=>wpListIn F n P l.toArray Q (l.drop m) a' w.drew) (l.take m) a):(Code.region id l.toArray true).wpIn F n P Q a w:=by
 rw[Bool.and_eq_true]at hB;obtain⟨hB,hnd⟩:=hB;simp only[Region.lexTailB,Bool.and_eq_true,decide_eq_true_eq]at hB;obtain⟨⟨⟨⟨hsel,hn⟩,hs⟩,hc⟩,hlex⟩:=hB;have hn':m<l.length:=by simpa using hn
 have htl:(l.take m).length=m:=by simp;omega
 have hdl:(l.drop m).length=l.toArray.size-m:=by simp
 have inv0:HeadInv .any l.toArray m (Array.replicate l.toArray.size false):=
  ⟨by simp,fun j oj _ hl=>(by rw[getD_replicate_false]at hl;cases hl),fun t _ ht=>getD_in (by simpa using ht) (getD_replicate_false _ _)⟩
 have H:=wpAnyL_lex (md:=.any) (g:=l.toArray.size-m) hsel hs hc hn (l.take m) 0 _ a (fun j hj=>by
  have hj':j<m:=by rw[htl]at hj;exact hj
  simp[hj']) (by simpa using htl) inv0 (by rw[htl];exact hlex) h
 refine wpIn_region_any hm ?_;have:=z2l (n:=n) hF hnd (Q':=Q) (g:=l.toArray.size-m) (fun listed a' hL=>by
  have:=z2H (F:=F) (n:=n) (P:=P) (md:=.any) (Q':=Q) (l.drop m) m listed a' w.drew (fun j=>by simp[List.getElem?_drop]) (by rw[hdl];exact hL.1) hL.2
  rwa [hdl]at this) _ _ _ H
 rw[htl,show m+(l.toArray.size-m)=l.toArray.size by omega]at this;exact this
theorem zH{id:Nat}{Q:Exit→Act→World→Prop}{a:Act}{w:World}{l:List Oper}(m:Nat)(hm:P.follows .mixedOrders=true)(hB:Region.lexTailB .any l.toArray m=true)
  (h:wpStill P l.toArray w.drew (fun a'=>wpList P l.toArray Q (l.drop m) a' w.drew) (l.take m) a):(Code.region id l.toArray true).wp P Q a w:=wp_region_still_tail m hm hB h
end
end
end Go.Mor
end

section
namespace Go.Proofs.YtcpaleaajdilgaaDoor
open Go Go.RowKit Go.Mor Go.Shelf
attribute [local go_sem] Oper.semAt_some
theorem zbv{a b:Bool}(h:a=b):Ending.returned (.bool a)=.returned (.bool b):=by rw[h]
def z1B(Ba Bt:Nat)(W W':World):Prop:=W'.heap[Ba]?=W.heap[Ba]?∧W'.heap[Bt]?=W.heap[Bt]?
theorem z9p(n:Nat)(l Ba Bt:Nat)(s:zB)(a:Nat)(ha:a≤s.length)(hs:s.length<1125899906842624)(J Jx:List (Mor.Ix×UInt8)→World→Prop)
    (hY:∀pre (g:Mor.Ix×UInt8) W,J pre W→pre.length<s.length→YieldAt Fence.wide (n-1) Tryd.prog l #[.int .i64 g.1.val,.int .u8 g.2.toNat] W fun e W'=>
      (e=.returned (.bool true)∧J (pre++[g]) W'∧z1B Ba Bt W W')∨(e=.returned (.bool false)∧Jx (pre++[g]) W'))
    (W:World) (hBa:W.cell? ⟨Ba,0,none⟩=some (.int .i64 a)) (hBt:W.cell? ⟨Bt,0,none⟩=some (.string (str s))) (hJd:∀pre W,J pre W→J pre W.drew) (h0:J [] W):
    CallsIn Fence.wide n Tryd.prog 69 #[.func (.yield l) #[] #[],.pointer (some ⟨Ba,0,none⟩),.pointer (some ⟨Bt,0,none⟩)] W fun e W'=>(∃v,e=.returned v)∧
      ((∃ys,ys=z0q s a∧J ys W')∨(∃pre,pre<+:z0q s a∧Jx pre W')):=by
  refine callsIn_of_wp Tryd.func69 rfl trivial ?_ rfl
  simp only[Tryd.ntmps69,List.size_toArray,List.length_cons,List.length_nil,Nat.reduceAdd,Nat.reduceSub,Array.replicate_succ,Array.replicate_zero,List.push_toArray,List.append_toArray,List.nil_append,List.cons_append]
  have HY:=Lib.hid hY
  have HJ:=Lib.hid hJd
  clear hY hJd
  gi_wp2
  gi_loopw [4] (fun p wr => ∃ (k : Nat), p = .int .i64 ((a : Int) + k) ∧ a + k ≤ s.length ∧ J ((z0q s a).take k) wr ∧ wr.cell? ⟨Ba, 0, none⟩ = some (.int .i64 a) ∧ wr.cell? ⟨Bt, 0, none⟩ = some (.string (str s)))
        (fun p _=>s.length-(intOf p).toNat)
  case atStart=>exact⟨0,by simp,by omega,by simpa using h0,hBa,hBt⟩
  case round=>
    obtain⟨k,rfl,hk,hJs,hBa,hBt⟩:=hrel
    by_cases hlt2:a+k<s.length
    · obtain⟨fn,tmps,assign,body,hy,hR⟩:=HY.out ((z0q s a).take k) (Fin.ofNat _ k,s[a+k]) wr.drew (HJ.out _ _ hJs) (by rw[List.length_take,z1w];omega)
      have hfin:((Fin.ofNat 1125899906842624 k).val:Int)=k:=by simp[Fin.ofNat];omega
      rw[hfin]at hy
      clear hfin
      have hR':RoundIn Fence.wide (n-1) Tryd.prog l fn tmps assign body wr.drew fun e W'=>∃t,e=.returned (.bool t)∧Hid ((t=true→J ((z0q s a).take k++[(Fin.ofNat _ k,s[a+k])]) W'∧z1B Ba Bt wr.drew W')∧(t=false→Jx ((z0q s a).take k++[(Fin.ofNat _ k,s[a+k])]) W')):=by
        refine hR.mono ?_
        rintro e W' (⟨rfl,h1,h2⟩|⟨rfl,h1⟩)
        · exact⟨true,rfl,fun _=>⟨h1,h2⟩,fun h=>by cases h⟩
        · exact⟨false,rfl,fun h=>(by cases h),fun _=>h1⟩
      have HR:=Lib.hid hR'
      clear hR hR'
      have ze:Tryd.prog.follows .mixedOrders=true:=by kernel_rfl
      gi_wp2_with fail
      have hw1:IntKind.i64.wrap ((a:Int)+k-a)=k:=by rw[IntWalk.i64_in _ (by omega)];omega
      have hw2:(0:Int)≤(a:Int)+k:=by omega
      have hw3:(a:Int)+k<s.length:=by omega
      have hw4:((a:Int)+k).toNat=a+k:=by omega
      refine z0o z8P 7 ze (by kernel_rfl) ?_
      simp only[List.take_succ_cons,List.take_zero,List.drop_succ_cons,List.drop_zero]
      repeat still_step
      refine wpStill_nil ?_
      clear hw1
      gi_wp2
      refine⟨fun h=>(by cases h),HR.out.mono ?_⟩
      rintro e W3 ⟨t,rfl,ht⟩
      cases t
      · gi_wp2
        refine bodyPost_ret (results_none rfl _ _ _) rfl ?_
        refine⟨⟨_,rfl⟩,.inr ⟨_,?_,ht.2 (by simp)⟩⟩
        rw[←z4L s a k hlt2]
        exact List.take_prefix _ _
      · obtain⟨hJ3,hB3⟩:=ht.1 (by simp)
        have hBa3:=(World.cell?_of_block (w:=wr) (a:=⟨Ba,0,none⟩) hB3.1).trans hBa
        have hBt3:=(World.cell?_of_block (w:=wr) (a:=⟨Bt,0,none⟩) hB3.2).trans hBt
        gi_wp2
        go_roundw
        case rel=>exact⟨k+1,by go_num,by omega,by rw[z4L s a k hlt2];exact hJ3,hBa3,hBt3⟩
        case measure=>simp[intOf];omega
    · gi_wp2
      go_end0
      exact⟨⟨_,rfl⟩,.inl ⟨_,(List.take_of_length_le (by rw[z1w];omega)),hJs⟩⟩
theorem zag(n:Nat)(s:zB)(a:Int)(w:World):
  CallsIn Fence.wide n Tryd.prog 65 #[.string (str s),.int .i64 a] w fun e w'=>e=.returned (.func (.func 69) #[] #[.pointer (some ⟨w.heap.size+1,0,none⟩),.pointer (some ⟨w.heap.size,0,none⟩)])∧w'=(w.alloc (.cells #[.string (str s)] 91)).alloc (.cells #[.int .i64 a] 3):=by
 refine callsIn_of_wp Tryd.func65 rfl trivial ?_ rfl;simp only[Tryd.ntmps65,List.size_toArray,List.length_cons,List.length_nil,Nat.reduceAdd,Nat.reduceSub,Array.replicate_succ,Array.replicate_zero,List.push_toArray,List.append_toArray,List.nil_append,List.cons_append]
 gi_wp2
 go_ret
 exact⟨rfl,rfl⟩
theorem z3M(s:zB)(a m:Int)(w:World)(hs:s.length≤9223372036854775807)(ha: -9223372036854775808≤a)(ha1:a≤9223372036854775807):
  Calls Tryd.prog 63 #[.string (str s),.int .i64 a,.int .i64 m] w fun e w'=>e=.returned (.bool (decide (0≤a∧a≤s.length∧m≤s.length-a)))∧w'=w:=by
 go_enter Tryd.func63,Tryd.ntmps63
 go_wp2
 all_goals go_ret
 all_goals exact⟨zbv (by rw[Bool.eq_iff_iff];simp_all []<;>omega),rfl⟩
section
attribute [local go_sem] Oper.semAt_some
def z1i(s:zB)(a:Int)(b:Nat)(a0 a1:Addr)(w:World)(e:Ending)(w':World):Prop:=
 match rd s a with
 | .ok (n,z)=>e=.returned (.tuple #[.int .i64 n,.nilIface])∧w.grownBy w' (some b)∧w'.heap[b]?=some (.cells #[.string (str s),.int .i64 (a+z)] 93 (0,0))
 | .error false=>e=.returned (.tuple #[.int .i64 0,.iface 129 (.pointer (some a0))])∧Below w.heap.size w w'
 | .error true=>e=.returned (.tuple #[.int .i64 0,.iface 129 (.pointer (some a1))])∧Below w.heap.size w w'
theorem zW{w:World}{b t:Nat}{cs:Array Value}(h:w.heap[b]?=some (.cells cs t (0,0)))(i:Nat):w.cell? ⟨b,i,none⟩=cs[i]?:=by simp[World.cell?,h]
theorem z4u{w:World}{b t:Nat}{cs:Array Value}(h:w.heap[b]?=some (.cells cs t (0,0)))(i:Nat):w.frozen? ⟨b,i,none⟩=false:=by simp[World.frozen?,h]
theorem zba{s:zB}{a:Int}(h:¬(0≤a∧a<s.length)):rd s a=.error false:=by simp only[rd,if_neg h]
theorem z7P(s:zB)(a:Int)(b:Nat)(a0 a1:Addr)(w:World)(hs:s.length<1125899906842624)(ha0: -9223372036854775808≤a)(ha1:a≤9223372036854775807)
  (hG:Glob w a0 a1) (hb:w.heap[b]?=some (.cells #[.string (str s),.int .i64 a] 93 (0,0))) (hin:¬(0≤a∧a<s.length)):
  Calls Tryd.prog 60 #[.pointer (some ⟨b,0,none⟩)] w fun e w'=>e=.returned (.tuple #[.int .i64 0,.iface 129 (.pointer (some a0))])∧Below w.heap.size w w':=by
 have ze:Tryd.prog.follows .mixedOrders=true:=by kernel_rfl
 have hblt:=z1Z hb;have c0:w.cell? ⟨b,0,none⟩=some (.string (str s)):=zW hb 0;have c1:w.cell? ⟨b,0+1,none⟩=some (.int .i64 a):=zW hb 1;have e0:=hG.e0;have g0:=zS e0
 dsimp only at g0
 have g00:0<w.heap.size:=by omega
 have hhas:∀W,Calls Tryd.prog 63 #[.string (str s),.int .i64 a,.int .i64 1] W fun e w'=>e=.returned (.bool false)∧w'=W:=fun W=>by
  have:=z3M s a 1 W (by omega) ha0 ha1
  rwa [decide_eq_false (by omega)]at this
 have HH:=Lib.hid hhas;clear hhas hG hb
 go_enter Tryd.func60,Tryd.ntmps60
 go_wp2_with fail
 go_step3
 go_wp2_with fail
 refine zH 9 ze (by kernel_rfl) ?_;simp only[List.take_succ_cons,List.take_zero,List.drop_succ_cons,List.drop_zero]
 iterate 8 still_step
 still_call (HH.out _)
 refine wpStill_nil ?_
 go_wp2_with fail
 go_region
 all_goals go_wp2_with fail
 all_goals rw[Exit.noGoto_ret]
 all_goals refine bodyPost_ret (v:=.tuple #[.int .i64 0,.iface 129 (.pointer (some a0))]) (by simp[results,Tryd.results60,go_sem]) rfl ⟨rfl,by go_grown⟩
theorem z9q(s:zB)(a:Int)(w:World):
  Calls Tryd.prog 65 #[.string (str s),.int .i64 a] w fun e w'=>e=.returned (.func (.func 69) #[] #[.pointer (some ⟨w.heap.size+1,0,none⟩),.pointer (some ⟨w.heap.size,0,none⟩)])∧w'=(w.alloc (.cells #[.string (str s)] 91)).alloc (.cells #[.int .i64 a] 3):=
 callsIn_wide.1 (zag 3 s a w)
theorem z7H(n:Nat)(Ba Bt:Nat)(s:zB)(a:Nat)(ha:a≤s.length)(hs:s.length<1125899906842624)(w:World)
  (hc:w.cell? ⟨Ba,0,none⟩=some (.int .i64 a)) (hd:w.cell? ⟨Bt,0,none⟩=some (.string (str s))):
  SeqStopsK Fence.wide n Tryd.prog 69 #[.pointer (some ⟨Ba,0,none⟩),.pointer (some ⟨Bt,0,none⟩)] (fun g:Mor.Ix×UInt8=> #[Value.int .i64 g.1.val,Value.int .u8 g.2.toNat]) (z1B Ba Bt) (fun ys=>ys=z0q s a) (fun pre=>pre<+:z0q s a) s.length w:=fun l J Jx W hW hJ _ hY h0=>
 z9p n l Ba Bt s a ha hs J Jx hY W ((hW.cell (p:=⟨Ba,0,none⟩) (zS hc)).trans hc) ((hW.cell (p:=⟨Bt,0,none⟩) (zS hd)).trans hd)
  (fun pre W1 hj=>hJ pre W1 W1.drew none hj ⟨rfl,rfl,rfl,Nat.le_refl _,fun _ _ _=>rfl⟩ (fun r e=>by cases e)) h0
theorem z78{Ba Bt:Nat}{A B C:World}(h:z1B Ba Bt A B)(k:z1B Ba Bt B C):z1B Ba Bt A C:=⟨k.1.trans h.1,k.2.trans h.2⟩
theorem zai{Ba Bt:Nat}{w:World}(ha:Ba<w.heap.size)(hb:Bt<w.heap.size)(W:World)(l:Nat)(o o':Obj)(hl:w.heap.size≤l)(_:W.heap[l]?=some o)(_:o.isCells=false)(_:o.isWalk=false):z1B Ba Bt W (W.putObj l o'):=
 ⟨World.putObj_heap_other (fun e=>by omega),World.putObj_heap_other (fun e=>by omega)⟩
theorem zJ{A B:World}{row:Option Nat}{Bk t:Nat}{v:Value}(h:Boxed A Bk t v)(hg:A.grownBy B row)(hr:∀r,row=some r→∃o:Obj,A.heap[r]?=some o∧o.isCells=false):Boxed B Bk t v:=
 h.kept hg (fun e'=>by obtain⟨o,ho,hc⟩:=hr Bk e'.symm;rw[show A.heap[Bk]?=_ from h]at ho;cases ho;cases hc)
structure Mids(s:zB)(a h:Nat)(w:World)(pre:List (Mor.Ix×UInt8))(W:World)(m sg:Int):Prop where
 bm:Boxed W (h+1+1) 90 (.int .u64 m)
 bs:Boxed W (h+1+1+1) 90 (.int .u64 sg)
 bz:Boxed W (h+1+1+1+1) 3 (.int .i64 0)
 b0:Boxed W h 3 (.int .i64 0)
 b1:Boxed W (h+1) 95 .nilIface
 m0:0≤m
 m1:m<18446744073709551616
 s0:0≤sg
 bl:Below h w W
 good:Begs s a pre→Mid s a pre m sg
def z7v(s:zB)(a h:Nat)(w:World)(a1:Addr)(c:Code)(pre:List (Mor.Ix×UInt8))(W:World):Prop:=
  Below h w W∧
  ((c=.ret∧Boxed W h 3 (.int .i64 0)∧Boxed W (h+1) 95 (.iface 129 (.pointer (some a1)))∧(Begs s a pre→z0j 0 (0,0) (s.drop a)=.error true))∨
   (c=.exit 0∧∃m sg z:Nat,Boxed W (h+1+1) 90 (.int .u64 m)∧Boxed W (h+1+1+1) 90 (.int .u64 sg)∧Boxed W (h+1+1+1+1) 3 (.int .i64 (z+1))∧Boxed W h 3 (.int .i64 0)∧Boxed W (h+1) 95 .nilIface∧z<1125899906842624∧
     (Begs s a pre→z0j 0 (0,0) (s.drop a)=.ok (m,sg,z+1))))
theorem zaM(w:World):Boxed (((((w.alloc (.cells #[.int .i64 0] 3)).alloc (.cells #[.nilIface] 95)).alloc (.cells #[.int .u64 0] 90)).alloc (.cells #[.int .u64 0] 90)).alloc (.cells #[.int .i64 0] 3)) w.heap.size 3 (.int .i64 0)∧Boxed (((((w.alloc (.cells #[.int .i64 0] 3)).alloc (.cells #[.nilIface] 95)).alloc (.cells #[.int .u64 0] 90)).alloc (.cells #[.int .u64 0] 90)).alloc (.cells #[.int .i64 0] 3)) (w.heap.size+1) 95 .nilIface∧Boxed (((((w.alloc (.cells #[.int .i64 0] 3)).alloc (.cells #[.nilIface] 95)).alloc (.cells #[.int .u64 0] 90)).alloc (.cells #[.int .u64 0] 90)).alloc (.cells #[.int .i64 0] 3)) (w.heap.size+2) 90 (.int .u64 0)∧Boxed (((((w.alloc (.cells #[.int .i64 0] 3)).alloc (.cells #[.nilIface] 95)).alloc (.cells #[.int .u64 0] 90)).alloc (.cells #[.int .u64 0] 90)).alloc (.cells #[.int .i64 0] 3)) (w.heap.size+3) 90 (.int .u64 0)∧Boxed (((((w.alloc (.cells #[.int .i64 0] 3)).alloc (.cells #[.nilIface] 95)).alloc (.cells #[.int .u64 0] 90)).alloc (.cells #[.int .u64 0] 90)).alloc (.cells #[.int .i64 0] 3)) (w.heap.size+4) 3 (.int .i64 0)∧(((((w.alloc (.cells #[.int .i64 0] 3)).alloc (.cells #[.nilIface] 95)).alloc (.cells #[.int .u64 0] 90)).alloc (.cells #[.int .u64 0] 90)).alloc (.cells #[.int .i64 0] 3)).heap.size=w.heap.size+5∧Below w.heap.size w (((((w.alloc (.cells #[.int .i64 0] 3)).alloc (.cells #[.nilIface] 95)).alloc (.cells #[.int .u64 0] 90)).alloc (.cells #[.int .u64 0] 90)).alloc (.cells #[.int .i64 0] 3)):=by
 refine⟨((((Boxed.new w _ _).alloc _).alloc _).alloc _).alloc _,?_,?_,?_,?_,by simp,?_⟩
 ·have:=Boxed.new (w.alloc (.cells #[.int .i64 0] 3)) 95 .nilIface;simp only[World.size_alloc]at this;exact((this.alloc _).alloc _).alloc _
 ·have:=Boxed.new ((w.alloc (.cells #[.int .i64 0] 3)).alloc (.cells #[.nilIface] 95)) 90 (.int .u64 0);simp only[World.size_alloc]at this;exact(this.alloc _).alloc _
 ·have:=Boxed.new (((w.alloc (.cells #[.int .i64 0] 3)).alloc (.cells #[.nilIface] 95)).alloc (.cells #[.int .u64 0] 90)) 90 (.int .u64 0);simp only[World.size_alloc]at this;exact this.alloc _
 ·have:=Boxed.new ((((w.alloc (.cells #[.int .i64 0] 3)).alloc (.cells #[.nilIface] 95)).alloc (.cells #[.int .u64 0] 90)).alloc (.cells #[.int .u64 0] 90)) 3 (.int .i64 0);simp only[World.size_alloc]at this;exact this
 ·go_grown
section
variable{s:zB}{a H B:Nat}{w W:World}{a1:Addr}{pre q:List (Mor.Ix×UInt8)}{m sg:Int}
theorem z3C{Ba Bt c:Nat}(ha:Ba≠c)(hb:Bt≠c)(W:World)(v:Value):z1B Ba Bt W (W.setCell ⟨c,0,none⟩ v):=⟨Below.heap_setCell _ _ _ _ ha,Below.heap_setCell _ _ _ _ hb⟩
theorem zaP(h:Mids s a H w pre W m sg)(m' sg':Nat){v1 v2:Int}(e1:v1=m')(e2:v2=sg')(hg:Begs s a q→z0j 0 (0,0) (s.drop a)=.ok (m',sg',1)):
  KeepsFrom B W (((W.setCell ⟨H+1+1,0,none⟩ (.int .u64 v1)).setCell ⟨H+1+1+1,0,none⟩ (.int .u64 v2)).setCell ⟨H+1+1+1+1,0,none⟩ (.int .i64 1))∧
  z7v s a H w a1 (.exit 0) q (((W.setCell ⟨H+1+1,0,none⟩ (.int .u64 v1)).setCell ⟨H+1+1+1,0,none⟩ (.int .u64 v2)).setCell ⟨H+1+1+1+1,0,none⟩ (.int .i64 1)):=by
 subst e1 e2;refine⟨(((KeepsOthers.setCell _ _ _).trans (KeepsOthers.setCell _ _ _)).trans (KeepsOthers.setCell _ _ _)).from _,?_,.inr ⟨rfl,m',sg',0,?_,?_,?_,?_,?_,by omega,hg⟩⟩
 ·exact((h.bl.setCell (p:=⟨H+1+1,0,none⟩) (by dsimp only;omega) _).setCell (p:=⟨H+1+1+1,0,none⟩) (by dsimp only;omega) _).setCell (p:=⟨H+1+1+1+1,0,none⟩) (by dsimp only;omega) _
 ·exact((h.bm.set _).other (by omega) _).other (by omega) _
 ·exact((h.bs.other (by omega) _).set _).other (by omega) _
 ·exact((h.bz.other (by omega) _).other (by omega) _).set _
 ·exact((h.b0.other (by omega) _).other (by omega) _).other (by omega) _
 ·exact((h.b1.other (by omega) _).other (by omega) _).other (by omega) _
theorem zaQ(h:Mids s a H w pre W m sg)(m' sg':Nat){v1 v2:Int}(e1:v1=m')(e2:v2=sg')(hm:m'<64){Ba Bt:Nat}(ha:Ba=H+5+1)(hb:Bt=H+5)(hg:Begs s a q→Mid s a q m' sg'):
  KeepsFrom B W ((W.setCell ⟨H+1+1,0,none⟩ (.int .u64 v1)).setCell ⟨H+1+1+1,0,none⟩ (.int .u64 v2))∧z1B Ba Bt W ((W.setCell ⟨H+1+1,0,none⟩ (.int .u64 v1)).setCell ⟨H+1+1+1,0,none⟩ (.int .u64 v2))∧
  ∃m sg,Mids s a H w q ((W.setCell ⟨H+1+1,0,none⟩ (.int .u64 v1)).setCell ⟨H+1+1+1,0,none⟩ (.int .u64 v2)) m sg:=by
 subst e1 e2 ha hb;refine⟨((KeepsOthers.setCell _ _ _).trans (KeepsOthers.setCell _ _ _)).from _,z78 (z3C (by omega) (by omega) _ _) (z3C (by omega) (by omega) _ _),m',sg',?_,?_,?_,?_,?_,by omega,by omega,by omega,?_,hg⟩
 ·exact(h.bm.set _).other (by omega) _
 ·exact(h.bs.other (by omega) _).set _
 ·exact(h.bz.other (by omega) _).other (by omega) _
 ·exact(h.b0.other (by omega) _).other (by omega) _
 ·exact(h.b1.other (by omega) _).other (by omega) _
 ·exact(h.bl.setCell (p:=⟨H+1+1,0,none⟩) (by dsimp only;omega) _).setCell (p:=⟨H+1+1+1,0,none⟩) (by dsimp only;omega) _
theorem zaR(h:Mids s a H w pre W m sg){v:Int}(h0:0≤v)(h1:v<18446744073709551616){Ba Bt:Nat}(ha:Ba=H+5+1)(hb:Bt=H+5)(hg:Begs s a q→Mid s a q v sg):
  KeepsFrom B W (W.setCell ⟨H+1+1,0,none⟩ (.int .u64 v)).drew∧z1B Ba Bt W (W.setCell ⟨H+1+1,0,none⟩ (.int .u64 v)).drew∧
  ∃m sg,Mids s a H w q (W.setCell ⟨H+1+1,0,none⟩ (.int .u64 v)).drew m sg:=by
 subst ha hb;refine⟨((KeepsOthers.setCell _ _ _).trans (KeepsOthers.drew _)).from _,z3C (by omega) (by omega) W _,v,sg,?_,?_,?_,?_,?_,h0,h1,h.s0,?_,hg⟩
 ·exact h.bm.set _
 ·exact h.bs.other (by omega) _
 ·exact h.bz.other (by omega) _
 ·exact h.b0.other (by omega) _
 ·exact h.b1.other (by omega) _
 ·exact(h.bl.setCell (p:=⟨H+1+1,0,none⟩) (by dsimp only;omega) _).drew
theorem z8g(h:Mids s a H w pre W m sg){v:Int}{k:Nat}(hk:k<1125899906842624)(h0:0≤v)(hsg:0≤sg)(hg:Begs s a q→z0j 0 (0,0) (s.drop a)=.ok (v.toNat,sg.toNat,k+1)):
  KeepsFrom B W ((W.setCell ⟨H+1+1,0,none⟩ (.int .u64 v)).setCell ⟨H+1+1+1+1,0,none⟩ (.int .i64 ((k:Int)+1))).drew∧
  z7v s a H w a1 (.exit 0) q ((W.setCell ⟨H+1+1,0,none⟩ (.int .u64 v)).setCell ⟨H+1+1+1+1,0,none⟩ (.int .i64 ((k:Int)+1))).drew:=by
 obtain⟨v,rfl⟩:=Int.eq_ofNat_of_zero_le h0;obtain⟨sg,rfl⟩:=Int.eq_ofNat_of_zero_le hsg;refine⟨(((KeepsOthers.setCell _ _ _).trans (KeepsOthers.setCell _ _ _)).trans (KeepsOthers.drew _)).from _,?_,.inr ⟨rfl,v,sg,k,?_,?_,?_,?_,?_,hk,hg⟩⟩
 ·exact((h.bl.setCell (p:=⟨H+1+1,0,none⟩) (by dsimp only;omega) _).setCell (p:=⟨H+1+1+1+1,0,none⟩) (by dsimp only;omega) _).drew
 ·exact(h.bm.set _).other (by omega) _
 ·exact(h.bs.other (by omega) _).other (by omega) _
 ·exact(h.bz.other (by omega) _).set _
 ·exact(h.b0.other (by omega) _).other (by omega) _
 ·exact(h.b1.other (by omega) _).other (by omega) _
theorem z8h(h:Mids s a H w pre W m sg)(hg:Begs s a q→z0j 0 (0,0) (s.drop a)=.error true){W':World}(hW:W'=((W.setCell ⟨H,0,none⟩ (.int .i64 0)).setCell ⟨H+1,0,none⟩ (.iface 129 (.pointer (some a1)))).drew):
  KeepsFrom B W W'∧z7v s a H w a1 .ret q W':=by
 subst hW;refine⟨(((KeepsOthers.setCell _ _ _).trans (KeepsOthers.setCell _ _ _)).trans (KeepsOthers.drew _)).from _,?_,.inl ⟨rfl,?_,?_,hg⟩⟩
 ·exact((h.bl.setCell (p:=⟨H,0,none⟩) (Nat.le_refl _) _).setCell (p:=⟨H+1,0,none⟩) (by dsimp only;omega) _).drew
 ·exact(h.b0.set _).other (by omega) _
 ·exact(h.b1.other (by omega) _).set _
end
theorem zay(P:Program)(y:UInt8)(k:Nat)(hk:k<1125899906842624)(hk0:¬k=0):∃G:Int,0≤G∧G<18446744073709551616∧Hid (G=IntKind.u64.wrap ((y.toNat:Int)%128*2 ^ min (7*k-1) 64))∧
  ∀W,(Op.shift .shl .u64 ((y.toNat:Int)%128) .i64 (IntKind.i64.wrap (IntKind.i64.wrap (7*(k:Int)) - 1))).run P W=.ok (.int .u64 G) W:=by
 refine⟨IntKind.u64.wrap ((y.toNat:Int)%128*2 ^ min (7*k-1) 64),?_,?_,rfl,fun W=> ?_⟩
 ·simp[IntKind.wrap_u64];omega
 ·simp[IntKind.wrap_u64];omega
 ·rw[IntWalk.i64_in (7*(k:Int)) (by omega),IntWalk.i64_in _ (by omega)];have h1:¬(7*(k:Int) - 1<0):=by omega
  have h2:(7*(k:Int) - 1).toNat=7*k-1:=by omega
  simp only[Op.shift,h1,if_false,h2,IntKind.bits];rfl
theorem z79{W W':World}{D:Nat}{o:Obj}(h:KeepsOthers W W')(hK:W.heap[D]?=some o)(ho:o.isCells=false):W'.heap[D]?=some o:=h.same D o hK ho
theorem z8R{s:zB}{a:Nat}(hin:a<s.length){e:Bool}(h:z0j 0 (0,0) (s.drop a)=.error e):rd s a=.error e:=by
 simp only[rd,Int.toNat_natCast,h];rw[if_pos (by omega)]
theorem zbE{s:zB}{a m sg z:Nat}(hin:a<s.length)(h:z0j 0 (0,0) (s.drop a)=.ok (m,sg,z)):rd s a=.ok (if sg=1 then -1-(m:Int)else m,z):=by
 simp only[rd,Int.toNat_natCast,h];rw[if_pos (by omega)]
theorem za8{s:zB}{a b D:Nat}{w W:World}{v:Int}{x:Int}(hbl:Below w.heap.size w W)(hb:W.heap[b]?=some (.cells #[.string (str s),.int .i64 a] 93 (0,0)))(hbw:b<w.heap.size)
  (hK:W.heap[D]?=some (.deferred (some []))) (hD:w.heap.size+7≤D) (bx0:Boxed W w.heap.size 3 (.int .i64 0)) (bx1:Boxed W (w.heap.size+1) 95 .nilIface) {W':World}
  (hW:W'=(((W.setCell ⟨b,1,none⟩ (.int .i64 v)).setCell ⟨w.heap.size,0,none⟩ (.int .i64 x)).setCell ⟨w.heap.size+1,0,none⟩ .nilIface).drew):
  W'.heap[D]?=some (.deferred (some []))∧(W'.putObj D (.deferred none)).cell? ⟨w.heap.size,0,none⟩=some (.int .i64 x)∧(W'.putObj D (.deferred none)).cell? ⟨w.heap.size+1,0,none⟩=some .nilIface∧
  w.grownBy (W'.putObj D (.deferred none)) (some b)∧(W'.putObj D (.deferred none)).heap[b]?=some (.cells #[.string (str s),.int .i64 v] 93 (0,0)):=by
 subst hW;have hK2:=z79 ((((KeepsOthers.setCell W ⟨b,1,none⟩ (.int .i64 v)).trans (KeepsOthers.setCell _ ⟨w.heap.size,0,none⟩ (.int .i64 x))).trans (KeepsOthers.setCell _ ⟨w.heap.size+1,0,none⟩ .nilIface)).trans (KeepsOthers.drew _)) hK rfl;have k0:Boxed (W.setCell ⟨b,1,none⟩ (.int .i64 v)) w.heap.size 3 (.int .i64 0):=(Below.heap_setCell _ _ _ _ (by dsimp only;omega)).trans bx0;have k1:Boxed (W.setCell ⟨b,1,none⟩ (.int .i64 v)) (w.heap.size+1) 95 .nilIface:=(Below.heap_setCell _ _ _ _ (by dsimp only;omega)).trans bx1;have q0:Boxed (((W.setCell ⟨b,1,none⟩ (.int .i64 v)).setCell ⟨w.heap.size,0,none⟩ (.int .i64 x)).setCell ⟨w.heap.size+1,0,none⟩ .nilIface).drew w.heap.size 3 (.int .i64 x):=(k0.set _).other (by omega) _;have q1:Boxed (((W.setCell ⟨b,1,none⟩ (.int .i64 v)).setCell ⟨w.heap.size,0,none⟩ (.int .i64 x)).setCell ⟨w.heap.size+1,0,none⟩ .nilIface).drew (w.heap.size+1) 95 .nilIface:=(k1.other (by omega) _).set _;have hbb:(((W.setCell ⟨b,1,none⟩ (.int .i64 v)).setCell ⟨w.heap.size,0,none⟩ (.int .i64 x)).setCell ⟨w.heap.size+1,0,none⟩ .nilIface).heap[b]?=some (.cells #[.string (str s),.int .i64 v] 93 (0,0)):=by
  rw[Below.heap_setCell _ _ _ _ (by dsimp only;omega),Below.heap_setCell _ _ _ _ (by dsimp only;omega)];simp[World.setCell,Array.getElem?_modify,hb]
 refine⟨hK2,?_,?_,?_,?_⟩
 ·exact(zJ q0 (grownBy_putObj' _ D (.deferred none)) (fun r e=>by cases e;exact⟨_,hK2,rfl⟩)).cell
 ·exact(zJ q1 (grownBy_putObj' _ D (.deferred none)) (fun r e=>by cases e;exact⟨_,hK2,rfl⟩)).cell
 ·refine⟨hbl.os,hbl.tape,hbl.output,?_,fun k hk hne=> ?_⟩
  ·have:=hbl.size;have:=(grownBy_putObj' (((W.setCell ⟨b,1,none⟩ (.int .i64 v)).setCell ⟨w.heap.size,0,none⟩ (.int .i64 x)).setCell ⟨w.heap.size+1,0,none⟩ .nilIface).drew D (.deferred none)).size;simp[World.size_setCell,World.drew]at this ⊢;omega
  ·rw[World.putObj_heap_other (fun e=>by omega)];show(((W.setCell ⟨b,1,none⟩ (.int .i64 v)).setCell ⟨w.heap.size,0,none⟩ (.int .i64 x)).setCell ⟨w.heap.size+1,0,none⟩ .nilIface).heap[k]?=_;have hkb:k≠b:=fun e=>hne (by rw[e]);rw[Below.heap_setCell _ _ _ _ (by dsimp only;omega),Below.heap_setCell _ _ _ _ (by dsimp only;omega),Below.heap_setCell _ _ _ _ (by dsimp only;omega),hbl.block k hk]
 ·rw[World.putObj_heap_other (fun e=>by omega)];exact hbb
theorem z99(s:zB)(a:Nat):Begs s a (z0q s a):=List.prefix_refl _
theorem z8L(s:zB)(a:Nat)(b:Nat)(a0 a1:Addr)(w:World)(hs:s.length<1125899906842624)(hin:a<s.length)
  (hG:Glob w a0 a1) (hb:w.heap[b]?=some (.cells #[.string (str s),.int .i64 a] 93 (0,0))):
  Calls Tryd.prog 60 #[.pointer (some ⟨b,0,none⟩)] w (z1i s a b a0 a1 w):=by
 have ze:Tryd.prog.follows .mixedOrders=true:=by kernel_rfl
 have hblt:=z1Z hb;have c0:w.cell? ⟨b,0,none⟩=some (.string (str s)):=zW hb 0;have c1:w.cell? ⟨b,0+1,none⟩=some (.int .i64 a):=zW hb 1;have e0:=hG.e0;have e1:=hG.e1;have g0:=zS e0;have g1:=zS e1
 dsimp only at g0 g1
 have g00:0<w.heap.size:=by omega
 have hhas:∀W,Calls Tryd.prog 63 #[.string (str s),.int .i64 a,.int .i64 1] W fun e w'=>e=.returned (.bool true)∧w'=W:=fun W=>by
  have:=z3M s a 1 W (by omega) (by omega) (by omega)
  rwa [decide_eq_true (by omega)]at this
 have HH:=Lib.hid hhas;have HG:=Lib.hid hG;have HB:=Lib.hid hb;clear hhas hG hb;refine callsIn_wide.1 (callsIn_of_wp_marks (n:=9) Tryd.func60 rfl trivial (wpIn_wide.2 ?_) rfl);simp only[Tryd.ntmps60,List.size_toArray,List.length_cons,List.length_nil,Nat.reduceAdd,Nat.reduceSub,Array.replicate_succ,Array.replicate_zero,List.push_toArray,List.append_toArray,List.nil_append,List.cons_append]
 go_wp2_with fail
 go_step3
 go_wp2_with fail
 refine zH 9 ze (by kernel_rfl) ?_;simp only[List.take_succ_cons,List.take_zero,List.drop_succ_cons,List.drop_zero]
 iterate 8 still_step
 still_call (HH.out _)
 refine wpStill_nil ?_
 go_wp2_with fail
 go_step3
 go_wp2_with fail
 obtain⟨B0,B1,B2,B3,B4,hsz,hBl⟩:=zaM w;obtain⟨W0,hW0⟩:∃W0,(((((w.alloc (.cells #[.int .i64 0] 3)).alloc (.cells #[.nilIface] 95)).alloc (.cells #[.int .u64 0] 90)).alloc (.cells #[.int .u64 0] 90)).alloc (.cells #[.int .i64 0] 3))=W0:=⟨_,rfl⟩
 rw[hW0]at B0 B1 B2 B3 B4 hsz hBl ⊢;clear hW0;have d0:=(hBl.cell (p:=⟨b,0,none⟩) hblt).trans c0;have d1:=(hBl.cell (p:=⟨b,0+1,none⟩) hblt).trans c1;have HS:=Lib.hid hsz;clear hsz;refine zH 8 ze (by kernel_rfl) ?_;simp only[List.take_succ_cons,List.take_zero,List.drop_succ_cons,List.drop_zero]
 iterate 8 still_step
 refine wpStill_nil ?_
 go_wp2_with fail
 refine(z9q _ _ _).mono ?_;rintro e w' ⟨rfl,rfl⟩
 go_wp2_with fail
 have BT0:=(Boxed.new W0 91 (.string (str s))).alloc (.cells #[.int .i64 a] 3);have BA0:=Boxed.new (W0.alloc (.cells #[.string (str s)] 91)) 3 (.int .i64 a);rw[World.size_alloc]at BA0;obtain⟨W1,hW1⟩:∃W1,((W0.alloc (.cells #[.string (str s)] 91)).alloc (.cells #[.int .i64 a] 3)).drew.drew=W1:=⟨_,rfl⟩
 have BT:Boxed W1 W0.heap.size 91 (.string (str s)):=by rw[←hW1];exact BT0
 have BA:Boxed W1 (W0.heap.size+1) 3 (.int .i64 a):=by rw[←hW1];exact BA0
 have b0:Boxed W1 w.heap.size 3 (.int .i64 0):=by rw[←hW1];exact(B0.alloc _).alloc _
 have b1:Boxed W1 (w.heap.size+1) 95 .nilIface:=by rw[←hW1];exact(B1.alloc _).alloc _
 have b2:Boxed W1 (w.heap.size+1+1) 90 (.int .u64 0):=by rw[←hW1];exact(B2.alloc _).alloc _
 have b3:Boxed W1 (w.heap.size+1+1+1) 90 (.int .u64 0):=by rw[←hW1];exact(B3.alloc _).alloc _
 have b4:Boxed W1 (w.heap.size+1+1+1+1) 3 (.int .i64 0):=by rw[←hW1];exact(B4.alloc _).alloc _
 have hBl1:Below w.heap.size w W1:=by rw[←hW1];exact((((hBl).alloc hBl.size _).alloc (by have:=hBl.size;simp;omega) _).drew).drew
 have hs1:W1.heap.size=w.heap.size+7:=by rw[←hW1];simp[World.drew,HS.out]
 rw[hW1];have H0:=HS.out;clear BT0 BA0 hW1 B0 B1 B2 B3 B4 hBl d0 d1;refine(wpIn_wide (n:=9)).1 (wpIn_rangeFunc_ownG rfl (by omega) (gf:=69) (lb:= #[.pointer (some ⟨W0.heap.size+1,0,none⟩),.pointer (some ⟨W0.heap.size,0,none⟩)]) rfl trivial (enters_of Tryd.func69 (by kernel_rfl) rfl)
  (z7H 8 (W0.heap.size+1) W0.heap.size s a (by omega) hs W1 BA.cell BT.cell) z78 (zai (by omega) (by omega)) (Below.refl _ _) (fun _=>rfl)
  (fun pre W=>∃m sg,Mids s a w.heap.size w pre W m sg)
  (fun c pre W=>z7v s a w.heap.size w a1 c pre W) ?hI ?hIx ⟨0,0,b2,b3,b4,b0,b1,by omega,by omega,by omega,hBl1,fun _=>⟨rfl,rfl,rfl,by decide,by simp⟩⟩ ?a1 ?assign ?body ?done ?stop)
 case hI=>
  rintro pre X Y row ⟨m,sg,h⟩ hg hr;have hr':=fun r e=>(hr r e).2;exact⟨m,sg,zJ h.bm hg hr',zJ h.bs hg hr',zJ h.bz hg hr',zJ h.b0 hg hr',zJ h.b1 hg hr',h.m0,h.m1,h.s0,h.bl.grown hg h.bl.size (fun k e=>by have:=(hr k e).1;omega),h.good⟩
 case hIx=>
  rintro c pre X Y row ⟨hbl,h⟩ hg hr;have hr':=fun r e=>(hr r e).2;refine⟨hbl.grown hg hbl.size (fun k e=>by have:=(hr k e).1;omega),?_⟩;rcases h with⟨hc,h0,h1,hgd⟩|⟨hc,m,sg,z,h2,h3,h4,h0,h1,hz,hgd⟩
  ·exact .inl ⟨hc,zJ h0 hg hr',zJ h1 hg hr',hgd⟩
  ·exact .inr ⟨hc,m,sg,z,zJ h2 hg hr',zJ h3 hg hr',zJ h4 hg hr',zJ h0 hg hr',zJ h1 hg hr',hz,hgd⟩
 case assign=>
  intro l x W K hK
  gi_wp2
  exact hK
 case body=>
  rintro l pre ⟨⟨k,hk⟩,y⟩ W ⟨m,sg,h⟩ hlt
  dsimp only
  have hy:y.toNat<256:=y.toNat_lt;have hm0:=h.m0;have hm1:=h.m1;have cm:=h.bm.cell;have fm:=h.bm.frozen;have cs:=h.bs.cell;have fs:=h.bs.frozen;have cz:=h.bz.cell;have fz:=h.bz.frozen;have cr:=h.b0.cell;have fr:=h.b0.frozen;have ce:=h.b1.cell;have fe:=h.b1.frozen;have hMi:=Lib.hid h;clear h H0 BT BA b0 b1 b2 b3 b4 hBl1 hlt c0 c1 e0;have hand:bits .and .u8 (y.toNat:Int) 127=((y.toNat%128:Nat):Int):=by
   have:=(by decide+kernel:∀z:Fin 256,bits .and .u8 ((z.val:Nat):Int) 127=((z.val%128:Nat):Int)) ⟨y.toNat,hy⟩
   exact this
  obtain⟨X,hX⟩:∃X:Mor.Ix×UInt8,X=(⟨k,hk⟩,y):=⟨_,rfl⟩
  have hXk:X.1.val=k:=by rw[hX]
  have hXy:X.2=y:=by rw[hX]
  rw[←hX];have HX1:=Lib.hid hXk;have HX2:=Lib.hid hXy;clear hX hXk hXy;by_cases hk0:k=0
  ·subst hk0;by_cases hlo:y.toNat<128
   ·gi_wp2_with fail
    refine zaP hMi.out (y.toNat%128 / 2) (y.toNat%128%2) (by omega) (by omega) (fun hg=> ?_);rw[Mid.ok hs hMi.out.good (by rw[HX1.out];simp) (by rw[HX2.out];exact hlo) hg,HX1.out];simp[z0s,HX1.out,HX2.out]
   ·gi_wp2_with fail
    refine zaQ hMi.out (y.toNat%128 / 2) (y.toNat%128%2) (by omega) (by omega) (by omega) (Ba:=W0.heap.size+1) (Bt:=W0.heap.size) (by have:=HS.out;omega) HS.out (fun hg=> ?_);have:=Mid.cont hs hMi.out.good (by rw[HX1.out];simp) (by rw[HX2.out];omega) hg;simpa [z0s,HX1.out,HX2.out]using this
  ·have hk1:((k:Int)==0)=false:=by simp;omega
   by_cases hbad:y.toNat=0∨k=9∧1<y.toNat
   ·have HE:Begs s a (pre++[X])→z0j 0 (0,0) (s.drop a)=.error true:=fun hg=>Mid.err hs hMi.out.good (by rw[HX1.out];exact hk0) (by rw[HX1.out,HX2.out];exact hbad) hg;have HE':=Lib.hid HE;have ge:=(hMi.out.bl.cell (p:=⟨0,0,none⟩) g1).trans e1;clear HE;by_cases hy0:y.toNat=0
    ·have hy1:((y.toNat:Int)==0)=true:=by simp;omega
     have HY0:=Lib.hid hy0;clear hy0 hbad
     gi_wp2_with fail
     gi_region_with_o (fail)
     all_goals gi_wp2_with fail
     all_goals exact z8h hMi.out HE'.out rfl
    ·have hy1:((y.toNat:Int)==0)=false:=by simp;omega
     have hk9':((k:Int)==9)=true:=by simp;omega
     have hgt:1<(y.toNat:Int):=by omega
     have HB:=Lib.hid hbad;clear hbad
     gi_wp2_with fail
     gi_region_with_o (fail)
     all_goals gi_wp2_with fail
     all_goals exact z8h hMi.out HE'.out rfl
   ·have hy0:((y.toNat:Int)==0)=false:=by simp;omega
    have hstep:Hid (∀G:Int,G=IntKind.u64.wrap ((y.toNat:Int)%128*2 ^ min (7*k-1) 64)→Begs s a (pre++[X])→bits .or .u64 m G=((z0s (stM pre) X).1:Nat)∧sg=((z0s (stM pre) X).2:Nat)):=
     fun G hG hg=>zar hs hMi.out.good (by rw[HX1.out];exact hk0) (by rw[HX1.out,HX2.out];exact hbad) (by rw[HX1.out,HX2.out];exact hG) hg
    have hnb:Hid (¬(X.1.val≠0∧(X.2.toNat=0∨X.1.val=9∧1<X.2.toNat))):=by
     show ¬_;rw[HX1.out,HX2.out];exact fun hc=>hbad hc.2
    obtain⟨G,hG0,hG1,HGe,hsh⟩:=zay Tryd.prog y k hk hk0;have HSH:=Lib.hid hsh;clear hsh;obtain⟨M,hM⟩:∃M,bits .or .u64 m G=M:=⟨_,rfl⟩
    have hMb:0≤M∧M<18446744073709551616:=by
     obtain⟨m,rfl⟩:=Int.eq_ofNat_of_zero_le hm0;obtain⟨G,rfl⟩:=Int.eq_ofNat_of_zero_le hG0;have:=Nat.or_lt_two_pow (n:=64) (x:=m) (y:=G) (by omega) (by omega);rw[←hM,u64_or_nat _ _ (by omega) (by omega)];omega
    obtain⟨hM0,hM1⟩:=hMb;have HM:=Lib.hid hM;clear hM;by_cases hk9:k=9
    ·have hk9':((k:Int)==9)=true:=by simp;omega
     have hgt:¬(1<(y.toNat:Int)):=by omega
     have hHk:=Lib.hid hk9;clear hk9
     gi_wp2_with fail
     have hsh:=HSH.out;have hM:=HM.out;refine z0o (z4J l) 7 ze (by kernel_rfl) ?_;simp only[List.take_succ_cons,List.take_zero,List.drop_succ_cons,List.drop_zero]
     iterate 7 still_step
     refine wpStill_nil ?_;clear hsh hM
     gi_wp2_with fail
     refine z8g hMi.out hk hM0 hMi.out.s0 (fun hg=> ?_);obtain⟨q1,q2⟩:=hstep.out G HGe.out hg;rw[HM.out]at q1;have hlo:y.toNat<128:=by omega
     rw[q1,q2];simpa [HX1.out]using Mid.ok hs hMi.out.good hnb.out (by rw[HX2.out];exact hlo) hg
    ·have hk9':((k:Int)==9)=false:=by simp;omega
     gi_wp2_with fail
     have hsh:=HSH.out;have hM:=HM.out;refine z0o (z4J l) 7 ze (by kernel_rfl) ?_;simp only[List.take_succ_cons,List.take_zero,List.drop_succ_cons,List.drop_zero]
     iterate 7 still_step
     refine wpStill_nil ?_;clear hsh hM
     gi_wp2_with fail
     ·refine z8g hMi.out hk hM0 hMi.out.s0 (fun hg=> ?_);obtain⟨q1,q2⟩:=hstep.out G HGe.out hg;rw[HM.out]at q1;have hlo:y.toNat<128:=by omega
      rw[q1,q2];simpa [HX1.out]using Mid.ok hs hMi.out.good hnb.out (by rw[HX2.out];exact hlo) hg
     ·refine zaR hMi.out hM0 hM1 (Ba:=W0.heap.size+1) (Bt:=W0.heap.size) (by have:=HS.out;omega) HS.out (fun hg=> ?_);obtain⟨q1,q2⟩:=hstep.out G HGe.out hg;rw[HM.out]at q1;have hlo:128≤y.toNat:=by omega
      rw[q1,q2];exact Mid.cont hs hMi.out.good hnb.out (by rw[HX2.out];exact hlo) hg
 case done=>
  rintro D ys W hD rfl ⟨m,sg,h⟩ hK;have cz:=h.bz.cell;have cr:=h.b0.cell;have fr:=h.b0.frozen;have ce:=h.b1.cell;have fe:=h.b1.frozen;have ge:=(h.bl.cell (p:=⟨1,0,none⟩) g0).trans e0;have hMi:=Lib.hid h;have HK:=Lib.hid hK;clear h H0 BT BA b0 b1 b2 b3 b4 hBl1 c0 c1 e0 e1 hK
  go_wp2_with fail
  go_region
  all_goals go_wp2_with fail
  all_goals
   rw[Exit.noGoto_ret];have bx0:Boxed ((W.setCell ⟨w.heap.size,0,none⟩ (.int .i64 0)).setCell ⟨w.heap.size+1,0,none⟩ (.iface 129 (.pointer (some a0)))).drew w.heap.size 3 (.int .i64 0):=(hMi.out.b0.set (.int .i64 0)).other (show w.heap.size≠w.heap.size+1 by omega) (.iface 129 (.pointer (some a0)));have bx1:Boxed ((W.setCell ⟨w.heap.size,0,none⟩ (.int .i64 0)).setCell ⟨w.heap.size+1,0,none⟩ (.iface 129 (.pointer (some a0)))).drew (w.heap.size+1) 95 (.iface 129 (.pointer (some a0))):=(hMi.out.b1.other (show w.heap.size+1≠w.heap.size by omega) (.int .i64 0)).set (.iface 129 (.pointer (some a0)));have hK2:=z79 (((KeepsOthers.setCell W ⟨w.heap.size,0,none⟩ (.int .i64 0)).trans (KeepsOthers.setCell _ ⟨w.heap.size+1,0,none⟩ (.iface 129 (.pointer (some a0))))).trans (KeepsOthers.drew _)) HK.out rfl;refine⟨by simp,.inl ⟨_,_,rfl,run_takeDeferred hK2,?_⟩⟩;have r0:=(zJ bx0 (grownBy_putObj' _ D (.deferred none)) (fun r e=>by cases e;exact⟨_,hK2,rfl⟩)).cell;have r1:=(zJ bx1 (grownBy_putObj' _ D (.deferred none)) (fun r e=>by cases e;exact⟨_,hK2,rfl⟩)).cell;refine⟨.tuple #[.int .i64 0,.iface 129 (.pointer (some a0))],by simp[results,Tryd.results60,go_sem,r0,r1],?_⟩
   have hgo:=(hMi.out.good (z99 s a)).go;rw[z1w,show a+(s.length-a)=s.length by omega,List.drop_length]at hgo;unfold z1i;rw[z8R hin hgo];exact⟨rfl,(((hMi.out.bl.setCell (p:=⟨w.heap.size,0,none⟩) (Nat.le_refl _) _).setCell (p:=⟨w.heap.size+1,0,none⟩) (by dsimp only;omega) _).drew).trans (belowK_b (w:=w) (Nat.le_refl _) _ D _ _ (by omega) hK2 rfl rfl)⟩
 case stop=>
  rintro D c pre W hD hSp ⟨hbl,hO⟩ hK;have HK:=Lib.hid hK;have HL:=Lib.hid hbl;rcases hO with⟨rfl,bx0,bx1,hgd⟩|⟨rfl,m,sg,z,bm,bs,bz,bx0,bx1,hz,hgd⟩
  ·refine wpIn_wide.2 ?_;have hgo:=hgd hSp;clear H0 BT BA b0 b1 b2 b3 b4 hBl1 c0 c1 e0 e1 hK hgd hbl
   go_wp2_with fail
   rw[Exit.noGoto_ret];have hK2:=HK.out;refine⟨by simp,.inl ⟨_,_,rfl,run_takeDeferred hK2,?_⟩⟩;have r0:=(zJ bx0 (grownBy_putObj' _ D (.deferred none)) (fun r e=>by cases e;exact⟨_,hK2,rfl⟩)).cell;have r1:=(zJ bx1 (grownBy_putObj' _ D (.deferred none)) (fun r e=>by cases e;exact⟨_,hK2,rfl⟩)).cell;refine⟨.tuple #[.int .i64 0,.iface 129 (.pointer (some a1))],by simp[results,Tryd.results60,go_sem,r0,r1],?_⟩;unfold z1i;rw[z8R hin hgo];exact⟨rfl,HL.out.trans (belowK_b (w:=w) (Nat.le_refl _) _ D _ _ (by omega) hK2 rfl rfl)⟩
  ·have HR:=Lib.hid (zbE hin (hgd hSp));have hb2:W.heap[b]?=some (.cells #[.string (str s),.int .i64 a] 93 (0,0)):=(hbl.block b hblt).trans HB.out;have d0:W.cell? ⟨b,0,none⟩=some (.string (str s)):=zW hb2 0;have d1:W.cell? ⟨b,0+1,none⟩=some (.int .i64 a):=zW hb2 1;have d2:W.frozen? ⟨b,0+1,none⟩=false:=z4u hb2 1;have cm:=bm.cell;have cs:=bs.cell;have cz:=bz.cell;have cr:=bx0.cell;have fr:=bx0.frozen;have ce:=bx1.cell;have fe:=bx1.frozen;have hHB:=Lib.hid hb2;have hlz:(((z:Int)+1)==0)=false:=by simp;omega
   obtain⟨hm63,hsg1,hz0,hz10,hzl⟩:=z2X (s.drop a) 0 (0,0) (by omega) (by decide) (.inl rfl) (hgd hSp);have hm63':(m:Int)<9223372036854775808:=by omega
   simp only[List.length_drop]at hzl;clear H0 BT BA b0 b1 b2 b3 b4 hBl1 c0 c1 e0 e1 hK hgd hbl hb2;refine wpIn_wide.2 ?_;by_cases hsg:sg=1;all_goals
    first
     |have hsgB:((sg:Int)==1)=true:=by simp;omega
     |have hsgB:((sg:Int)==1)=false:=by simp;omega
    have HSG:=Lib.hid hsg;clear hsg
    go_wp2_with fail
    have hw1:IntKind.i64.wrap ((a:Int)+((z:Int)+1))=(a:Int)+((z:Int)+1):=IntWalk.i64_in _ (by omega);refine zH 8 ze (by kernel_rfl) ?_;simp only[List.take_succ_cons,List.take_zero,List.drop_succ_cons,List.drop_zero]
    iterate 8 still_step
    refine wpStill_nil ?_;clear hw1
    go_wp2_with fail
    rw[Exit.noGoto_ret];obtain⟨hK2,r0,r1,hgr,hbk⟩:=za8 HL.out hHB.out hblt HK.out (by omega) bx0 bx1 rfl;refine⟨by simp,.inl ⟨_,_,rfl,run_takeDeferred hK2,?_⟩⟩;refine⟨_,by simp[results,Tryd.results60,go_sem,r0,r1];rfl,?_⟩;unfold z1i;rw[HR.out];first
     |(rw[if_pos HSG.out];exact⟨rfl,hgr,hbk⟩)
     |(rw[if_neg HSG.out];exact⟨rfl,hgr,hbk⟩)
end
end Go.Proofs.YtcpaleaajdilgaaDoor
end
