/- Merged texts: Wire5 Wire6. No statement of the program is proved here. -/
import Derived.Test.YtpmlapgbmgbilaaGreatDoorR31
import Derived.Deep.QuietTactic
import Derived.BigQuiet
set_option linter.unusedSimpArgs false
set_option linter.unusedVariables false
set_option maxRecDepth 100000
set_option maxHeartbeats 8000000
section
namespace Go.Proofs.YtpmlapgbmgbilaaGreatDoor
open Go Go.RowKit Go.Mor Go.Shelf
section
attribute [local go_sem] Oper.semAt_some
def z4f(s:zB)(a:Int)(b:Nat)(a0 a1:Addr)(w:World)(e:Ending)(w':World):Prop:=
 match rd s a with
 | .ok (n,z)=>e=.returned (.tuple #[.int .i64 n,.nilIface])∧w.grownBy w' (some b)∧w'.heap[b]?=some (.cells #[.string (str s),.int .i64 (a+z)] 176 (0,0))
 | .error false=>e=.returned (.tuple #[.int .i64 0,.iface 334 (.pointer (some a0))])∧Below w.heap.size w w'
 | .error true=>e=.returned (.tuple #[.int .i64 0,.iface 334 (.pointer (some a1))])∧Below w.heap.size w w'
theorem z1l{w:World}{b t:Nat}{cs:Array Value}(h:w.heap[b]?=some (.cells cs t (0,0)))(i:Nat):w.cell? ⟨b,i,none⟩=cs[i]?:=by simp[World.cell?,h]
theorem zbs{w:World}{b t:Nat}{cs:Array Value}(h:w.heap[b]?=some (.cells cs t (0,0)))(i:Nat):w.frozen? ⟨b,i,none⟩=false:=by simp[World.frozen?,h]
theorem zs1{s:zB}{a:Int}(h:¬(0≤a∧a<s.length)):rd s a=.error false:=by simp only[rd,if_neg h]
theorem zjq(s:zB)(a:Int)(b:Nat)(a0 a1:Addr)(w:World)(hs:s.length<1125899906842624)(ha0: -9223372036854775808≤a)(ha1:a≤9223372036854775807)
  (hG:GlobW w a0 a1) (hb:w.heap[b]?=some (.cells #[.string (str s),.int .i64 a] 176 (0,0))) (hin:¬(0≤a∧a<s.length)):
  Calls Tryz.prog 100 #[.pointer (some ⟨b,0,none⟩)] w fun e w'=>e=.returned (.tuple #[.int .i64 0,.iface 334 (.pointer (some a0))])∧Below w.heap.size w w':=by
 have ze:Tryz.prog.follows .mixedOrders=true:=by kernel_rfl
 have hblt:=z4o hb;have c0:w.cell? ⟨b,0,none⟩=some (.string (str s)):=z1l hb 0;have c1:w.cell? ⟨b,0+1,none⟩=some (.int .i64 a):=z1l hb 1;have e0:=hG.e0;have g0:=z1d e0
 dsimp only at g0
 have g00:0<w.heap.size:=by omega
 have hhas:∀W,Calls Tryz.prog 134 #[.string (str s),.int .i64 a,.int .i64 1] W fun e w'=>e=.returned (.bool false)∧w'=W:=fun W=>by
  have:=z9E s a 1 W (by omega) ha0 ha1
  rwa [decide_eq_false (by omega)]at this
 have HH:=Lib.hid hhas;clear hhas hG hb
 go_enter Tryz.func100,Tryz.ntmps100
 go_wp2_with fail
 go_step3
 go_wp2_with fail
 refine z0S 9 ze (by kernel_rfl) ?_;simp only[List.take_succ_cons,List.take_zero,List.drop_succ_cons,List.drop_zero]
 iterate 8 still_step
 still_call (HH.out _)
 refine wpStill_nil ?_
 go_wp2_with fail
 go_region
 all_goals go_wp2_with fail
 all_goals rw[Exit.noGoto_ret]
 all_goals refine bodyPost_ret (v:=.tuple #[.int .i64 0,.iface 334 (.pointer (some a0))]) (by simp[results,Tryz.results100,go_sem]) rfl ⟨rfl,by go_grown⟩
theorem znF(s:zB)(a:Int)(w:World):
  Calls Tryz.prog 136 #[.string (str s),.int .i64 a] w fun e w'=>e=.returned (.func (.func 164) #[] #[.pointer (some ⟨w.heap.size+1,0,none⟩),.pointer (some ⟨w.heap.size,0,none⟩)])∧w'=(w.alloc (.cells #[.string (str s)] 174)).alloc (.cells #[.int .i64 a] 3):=
 callsIn_wide.1 (zpX 3 s a w)
theorem zj3(n:Nat)(Ba Bt:Nat)(s:zB)(a:Nat)(ha:a≤s.length)(hs:s.length<1125899906842624)(w:World)
  (hc:w.cell? ⟨Ba,0,none⟩=some (.int .i64 a)) (hd:w.cell? ⟨Bt,0,none⟩=some (.string (str s))):
  SeqStopsK Fence.wide n Tryz.prog 164 #[.pointer (some ⟨Ba,0,none⟩),.pointer (some ⟨Bt,0,none⟩)] (fun g:Mor.Ix×UInt8=> #[Value.int .i64 g.1.val,Value.int .u8 g.2.toNat]) (z5b Ba Bt) (fun ys=>ys=z2D s a) (fun pre=>pre<+:z2D s a) s.length w:=fun l J Jx W hW hJ _ hY h0=>
 znE n l Ba Bt s a ha hs J Jx hY W ((hW.cell (p:=⟨Ba,0,none⟩) (z1d hc)).trans hc) ((hW.cell (p:=⟨Bt,0,none⟩) (z1d hd)).trans hd)
  (fun pre W1 hj=>hJ pre W1 W1.drew none hj ⟨rfl,rfl,rfl,Nat.le_refl _,fun _ _ _=>rfl⟩ (fun r e=>by cases e)) h0
theorem zhL{Ba Bt:Nat}{A B C:World}(h:z5b Ba Bt A B)(k:z5b Ba Bt B C):z5b Ba Bt A C:=⟨k.1.trans h.1,k.2.trans h.2⟩
theorem zq3{Ba Bt:Nat}{w:World}(ha:Ba<w.heap.size)(hb:Bt<w.heap.size)(W:World)(l:Nat)(o o':Obj)(hl:w.heap.size≤l)(_:W.heap[l]?=some o)(_:o.isCells=false)(_:o.isWalk=false):z5b Ba Bt W (W.putObj l o'):=
 ⟨World.putObj_heap_other (fun e=>by omega),World.putObj_heap_other (fun e=>by omega)⟩
theorem z0Y{A B:World}{row:Option Nat}{Bk t:Nat}{v:Value}(h:Boxed A Bk t v)(hg:A.grownBy B row)(hr:∀r,row=some r→∃o:Obj,A.heap[r]?=some o∧o.isCells=false):Boxed B Bk t v:=
 h.kept hg (fun e'=>by obtain⟨o,ho,hc⟩:=hr Bk e'.symm;rw[show A.heap[Bk]?=_ from h]at ho;cases ho;cases hc)
structure Mids(s:zB)(a h:Nat)(w:World)(pre:List (Mor.Ix×UInt8))(W:World)(m sg:Int):Prop where
 bm:Boxed W (h+1+1) 173 (.int .u64 m)
 bs:Boxed W (h+1+1+1) 173 (.int .u64 sg)
 bz:Boxed W (h+1+1+1+1) 3 (.int .i64 0)
 b0:Boxed W h 3 (.int .i64 0)
 b1:Boxed W (h+1) 178 .nilIface
 m0:0≤m
 m1:m<18446744073709551616
 s0:0≤sg
 bl:Below h w W
 good:Begs s a pre→Mid s a pre m sg
def zis(s:zB)(a h:Nat)(w:World)(a1:Addr)(c:Code)(pre:List (Mor.Ix×UInt8))(W:World):Prop:=
  Below h w W∧
  ((c=.ret∧Boxed W h 3 (.int .i64 0)∧Boxed W (h+1) 178 (.iface 334 (.pointer (some a1)))∧(Begs s a pre→z0P 0 (0,0) (s.drop a)=.error true))∨
   (c=.exit 0∧∃m sg z:Nat,Boxed W (h+1+1) 173 (.int .u64 m)∧Boxed W (h+1+1+1) 173 (.int .u64 sg)∧Boxed W (h+1+1+1+1) 3 (.int .i64 (z+1))∧Boxed W h 3 (.int .i64 0)∧Boxed W (h+1) 178 .nilIface∧z<1125899906842624∧
     (Begs s a pre→z0P 0 (0,0) (s.drop a)=.ok (m,sg,z+1))))
theorem zr6(w:World):Boxed (((((w.alloc (.cells #[.int .i64 0] 3)).alloc (.cells #[.nilIface] 178)).alloc (.cells #[.int .u64 0] 173)).alloc (.cells #[.int .u64 0] 173)).alloc (.cells #[.int .i64 0] 3)) w.heap.size 3 (.int .i64 0)∧Boxed (((((w.alloc (.cells #[.int .i64 0] 3)).alloc (.cells #[.nilIface] 178)).alloc (.cells #[.int .u64 0] 173)).alloc (.cells #[.int .u64 0] 173)).alloc (.cells #[.int .i64 0] 3)) (w.heap.size+1) 178 .nilIface∧Boxed (((((w.alloc (.cells #[.int .i64 0] 3)).alloc (.cells #[.nilIface] 178)).alloc (.cells #[.int .u64 0] 173)).alloc (.cells #[.int .u64 0] 173)).alloc (.cells #[.int .i64 0] 3)) (w.heap.size+2) 173 (.int .u64 0)∧Boxed (((((w.alloc (.cells #[.int .i64 0] 3)).alloc (.cells #[.nilIface] 178)).alloc (.cells #[.int .u64 0] 173)).alloc (.cells #[.int .u64 0] 173)).alloc (.cells #[.int .i64 0] 3)) (w.heap.size+3) 173 (.int .u64 0)∧Boxed (((((w.alloc (.cells #[.int .i64 0] 3)).alloc (.cells #[.nilIface] 178)).alloc (.cells #[.int .u64 0] 173)).alloc (.cells #[.int .u64 0] 173)).alloc (.cells #[.int .i64 0] 3)) (w.heap.size+4) 3 (.int .i64 0)∧(((((w.alloc (.cells #[.int .i64 0] 3)).alloc (.cells #[.nilIface] 178)).alloc (.cells #[.int .u64 0] 173)).alloc (.cells #[.int .u64 0] 173)).alloc (.cells #[.int .i64 0] 3)).heap.size=w.heap.size+5∧Below w.heap.size w (((((w.alloc (.cells #[.int .i64 0] 3)).alloc (.cells #[.nilIface] 178)).alloc (.cells #[.int .u64 0] 173)).alloc (.cells #[.int .u64 0] 173)).alloc (.cells #[.int .i64 0] 3)):=by
 refine⟨((((Boxed.new w _ _).alloc _).alloc _).alloc _).alloc _,?_,?_,?_,?_,by simp,?_⟩
 ·have:=Boxed.new (w.alloc (.cells #[.int .i64 0] 3)) 178 .nilIface;simp only[World.size_alloc]at this;exact((this.alloc _).alloc _).alloc _
 ·have:=Boxed.new ((w.alloc (.cells #[.int .i64 0] 3)).alloc (.cells #[.nilIface] 178)) 173 (.int .u64 0);simp only[World.size_alloc]at this;exact(this.alloc _).alloc _
 ·have:=Boxed.new (((w.alloc (.cells #[.int .i64 0] 3)).alloc (.cells #[.nilIface] 178)).alloc (.cells #[.int .u64 0] 173)) 173 (.int .u64 0);simp only[World.size_alloc]at this;exact this.alloc _
 ·have:=Boxed.new ((((w.alloc (.cells #[.int .i64 0] 3)).alloc (.cells #[.nilIface] 178)).alloc (.cells #[.int .u64 0] 173)).alloc (.cells #[.int .u64 0] 173)) 3 (.int .i64 0);simp only[World.size_alloc]at this;exact this
 ·go_grown
section
variable{s:zB}{a H B:Nat}{w W:World}{a1:Addr}{pre q:List (Mor.Ix×UInt8)}{m sg:Int}
theorem z9j{Ba Bt c:Nat}(ha:Ba≠c)(hb:Bt≠c)(W:World)(v:Value):z5b Ba Bt W (W.setCell ⟨c,0,none⟩ v):=⟨Below.heap_setCell _ _ _ _ ha,Below.heap_setCell _ _ _ _ hb⟩
theorem zrd(h:Mids s a H w pre W m sg)(m' sg':Nat){v1 v2:Int}(e1:v1=m')(e2:v2=sg')(hg:Begs s a q→z0P 0 (0,0) (s.drop a)=.ok (m',sg',1)):
  KeepsFrom B W (((W.setCell ⟨H+1+1,0,none⟩ (.int .u64 v1)).setCell ⟨H+1+1+1,0,none⟩ (.int .u64 v2)).setCell ⟨H+1+1+1+1,0,none⟩ (.int .i64 1))∧
  zis s a H w a1 (.exit 0) q (((W.setCell ⟨H+1+1,0,none⟩ (.int .u64 v1)).setCell ⟨H+1+1+1,0,none⟩ (.int .u64 v2)).setCell ⟨H+1+1+1+1,0,none⟩ (.int .i64 1)):=by
 subst e1 e2;refine⟨(((KeepsOthers.setCell _ _ _).trans (KeepsOthers.setCell _ _ _)).trans (KeepsOthers.setCell _ _ _)).from _,?_,.inr ⟨rfl,m',sg',0,?_,?_,?_,?_,?_,by omega,hg⟩⟩
 ·exact((h.bl.setCell (p:=⟨H+1+1,0,none⟩) (by dsimp only;omega) _).setCell (p:=⟨H+1+1+1,0,none⟩) (by dsimp only;omega) _).setCell (p:=⟨H+1+1+1+1,0,none⟩) (by dsimp only;omega) _
 ·exact((h.bm.set _).other (by omega) _).other (by omega) _
 ·exact((h.bs.other (by omega) _).set _).other (by omega) _
 ·exact((h.bz.other (by omega) _).other (by omega) _).set _
 ·exact((h.b0.other (by omega) _).other (by omega) _).other (by omega) _
 ·exact((h.b1.other (by omega) _).other (by omega) _).other (by omega) _
theorem zre(h:Mids s a H w pre W m sg)(m' sg':Nat){v1 v2:Int}(e1:v1=m')(e2:v2=sg')(hm:m'<64){Ba Bt:Nat}(ha:Ba=H+5+1)(hb:Bt=H+5)(hg:Begs s a q→Mid s a q m' sg'):
  KeepsFrom B W ((W.setCell ⟨H+1+1,0,none⟩ (.int .u64 v1)).setCell ⟨H+1+1+1,0,none⟩ (.int .u64 v2))∧z5b Ba Bt W ((W.setCell ⟨H+1+1,0,none⟩ (.int .u64 v1)).setCell ⟨H+1+1+1,0,none⟩ (.int .u64 v2))∧
  ∃m sg,Mids s a H w q ((W.setCell ⟨H+1+1,0,none⟩ (.int .u64 v1)).setCell ⟨H+1+1+1,0,none⟩ (.int .u64 v2)) m sg:=by
 subst e1 e2 ha hb;refine⟨((KeepsOthers.setCell _ _ _).trans (KeepsOthers.setCell _ _ _)).from _,zhL (z9j (by omega) (by omega) _ _) (z9j (by omega) (by omega) _ _),m',sg',?_,?_,?_,?_,?_,by omega,by omega,by omega,?_,hg⟩
 ·exact(h.bm.set _).other (by omega) _
 ·exact(h.bs.other (by omega) _).set _
 ·exact(h.bz.other (by omega) _).other (by omega) _
 ·exact(h.b0.other (by omega) _).other (by omega) _
 ·exact(h.b1.other (by omega) _).other (by omega) _
 ·exact(h.bl.setCell (p:=⟨H+1+1,0,none⟩) (by dsimp only;omega) _).setCell (p:=⟨H+1+1+1,0,none⟩) (by dsimp only;omega) _
theorem zrf(h:Mids s a H w pre W m sg){v:Int}(h0:0≤v)(h1:v<18446744073709551616){Ba Bt:Nat}(ha:Ba=H+5+1)(hb:Bt=H+5)(hg:Begs s a q→Mid s a q v sg):
  KeepsFrom B W (W.setCell ⟨H+1+1,0,none⟩ (.int .u64 v)).drew∧z5b Ba Bt W (W.setCell ⟨H+1+1,0,none⟩ (.int .u64 v)).drew∧
  ∃m sg,Mids s a H w q (W.setCell ⟨H+1+1,0,none⟩ (.int .u64 v)).drew m sg:=by
 subst ha hb;refine⟨((KeepsOthers.setCell _ _ _).trans (KeepsOthers.drew _)).from _,z9j (by omega) (by omega) W _,v,sg,?_,?_,?_,?_,?_,h0,h1,h.s0,?_,hg⟩
 ·exact h.bm.set _
 ·exact h.bs.other (by omega) _
 ·exact h.bz.other (by omega) _
 ·exact h.b0.other (by omega) _
 ·exact h.b1.other (by omega) _
 ·exact(h.bl.setCell (p:=⟨H+1+1,0,none⟩) (by dsimp only;omega) _).drew
theorem zkH(h:Mids s a H w pre W m sg){v:Int}{k:Nat}(hk:k<1125899906842624)(h0:0≤v)(hsg:0≤sg)(hg:Begs s a q→z0P 0 (0,0) (s.drop a)=.ok (v.toNat,sg.toNat,k+1)):
  KeepsFrom B W ((W.setCell ⟨H+1+1,0,none⟩ (.int .u64 v)).setCell ⟨H+1+1+1+1,0,none⟩ (.int .i64 ((k:Int)+1))).drew∧
  zis s a H w a1 (.exit 0) q ((W.setCell ⟨H+1+1,0,none⟩ (.int .u64 v)).setCell ⟨H+1+1+1+1,0,none⟩ (.int .i64 ((k:Int)+1))).drew:=by
 obtain⟨v,rfl⟩:=Int.eq_ofNat_of_zero_le h0;obtain⟨sg,rfl⟩:=Int.eq_ofNat_of_zero_le hsg;refine⟨(((KeepsOthers.setCell _ _ _).trans (KeepsOthers.setCell _ _ _)).trans (KeepsOthers.drew _)).from _,?_,.inr ⟨rfl,v,sg,k,?_,?_,?_,?_,?_,hk,hg⟩⟩
 ·exact((h.bl.setCell (p:=⟨H+1+1,0,none⟩) (by dsimp only;omega) _).setCell (p:=⟨H+1+1+1+1,0,none⟩) (by dsimp only;omega) _).drew
 ·exact(h.bm.set _).other (by omega) _
 ·exact(h.bs.other (by omega) _).other (by omega) _
 ·exact(h.bz.other (by omega) _).set _
 ·exact(h.b0.other (by omega) _).other (by omega) _
 ·exact(h.b1.other (by omega) _).other (by omega) _
theorem zkI(h:Mids s a H w pre W m sg)(hg:Begs s a q→z0P 0 (0,0) (s.drop a)=.error true){W':World}(hW:W'=((W.setCell ⟨H,0,none⟩ (.int .i64 0)).setCell ⟨H+1,0,none⟩ (.iface 334 (.pointer (some a1)))).drew):
  KeepsFrom B W W'∧zis s a H w a1 .ret q W':=by
 subst hW;refine⟨(((KeepsOthers.setCell _ _ _).trans (KeepsOthers.setCell _ _ _)).trans (KeepsOthers.drew _)).from _,?_,.inl ⟨rfl,?_,?_,hg⟩⟩
 ·exact((h.bl.setCell (p:=⟨H,0,none⟩) (Nat.le_refl _) _).setCell (p:=⟨H+1,0,none⟩) (by dsimp only;omega) _).drew
 ·exact(h.b0.set _).other (by omega) _
 ·exact(h.b1.other (by omega) _).set _
end
theorem zqE(P:Program)(y:UInt8)(k:Nat)(hk:k<1125899906842624)(hk0:¬k=0):∃G:Int,0≤G∧G<18446744073709551616∧Hid (G=IntKind.u64.wrap ((y.toNat:Int)%128*2 ^ min (7*k-1) 64))∧
  ∀W,(Op.shift .shl .u64 ((y.toNat:Int)%128) .i64 (IntKind.i64.wrap (IntKind.i64.wrap (7*(k:Int)) - 1))).run P W=.ok (.int .u64 G) W:=by
 refine⟨IntKind.u64.wrap ((y.toNat:Int)%128*2 ^ min (7*k-1) 64),?_,?_,rfl,fun W=> ?_⟩
 ·simp[IntKind.wrap_u64];omega
 ·simp[IntKind.wrap_u64];omega
 ·rw[IntWalk.i64_in (7*(k:Int)) (by omega),IntWalk.i64_in _ (by omega)];have h1:¬(7*(k:Int) - 1<0):=by omega
  have h2:(7*(k:Int) - 1).toNat=7*k-1:=by omega
  simp only[Op.shift,h1,if_false,h2,IntKind.bits];rfl
theorem zhM{W W':World}{D:Nat}{o:Obj}(h:KeepsOthers W W')(hK:W.heap[D]?=some o)(ho:o.isCells=false):W'.heap[D]?=some o:=h.same D o hK ho
theorem zm5{s:zB}{a:Nat}(hin:a<s.length){e:Bool}(h:z0P 0 (0,0) (s.drop a)=.error e):rd s a=.error e:=by
 simp only[rd,Int.toNat_natCast,h];rw[if_pos (by omega)]
theorem zt2{s:zB}{a m sg z:Nat}(hin:a<s.length)(h:z0P 0 (0,0) (s.drop a)=.ok (m,sg,z)):rd s a=.ok (if sg=1 then -1-(m:Int)else m,z):=by
 simp only[rd,Int.toNat_natCast,h];rw[if_pos (by omega)]
theorem zpI{s:zB}{a b D:Nat}{w W:World}{v:Int}{x:Int}(hbl:Below w.heap.size w W)(hb:W.heap[b]?=some (.cells #[.string (str s),.int .i64 a] 176 (0,0)))(hbw:b<w.heap.size)
  (hK:W.heap[D]?=some (.deferred (some []))) (hD:w.heap.size+7≤D) (bx0:Boxed W w.heap.size 3 (.int .i64 0)) (bx1:Boxed W (w.heap.size+1) 178 .nilIface) {W':World}
  (hW:W'=(((W.setCell ⟨b,1,none⟩ (.int .i64 v)).setCell ⟨w.heap.size,0,none⟩ (.int .i64 x)).setCell ⟨w.heap.size+1,0,none⟩ .nilIface).drew):
  W'.heap[D]?=some (.deferred (some []))∧(W'.putObj D (.deferred none)).cell? ⟨w.heap.size,0,none⟩=some (.int .i64 x)∧(W'.putObj D (.deferred none)).cell? ⟨w.heap.size+1,0,none⟩=some .nilIface∧
  w.grownBy (W'.putObj D (.deferred none)) (some b)∧(W'.putObj D (.deferred none)).heap[b]?=some (.cells #[.string (str s),.int .i64 v] 176 (0,0)):=by
 subst hW;have hK2:=zhM ((((KeepsOthers.setCell W ⟨b,1,none⟩ (.int .i64 v)).trans (KeepsOthers.setCell _ ⟨w.heap.size,0,none⟩ (.int .i64 x))).trans (KeepsOthers.setCell _ ⟨w.heap.size+1,0,none⟩ .nilIface)).trans (KeepsOthers.drew _)) hK rfl;have k0:Boxed (W.setCell ⟨b,1,none⟩ (.int .i64 v)) w.heap.size 3 (.int .i64 0):=(Below.heap_setCell _ _ _ _ (by dsimp only;omega)).trans bx0;have k1:Boxed (W.setCell ⟨b,1,none⟩ (.int .i64 v)) (w.heap.size+1) 178 .nilIface:=(Below.heap_setCell _ _ _ _ (by dsimp only;omega)).trans bx1;have q0:Boxed (((W.setCell ⟨b,1,none⟩ (.int .i64 v)).setCell ⟨w.heap.size,0,none⟩ (.int .i64 x)).setCell ⟨w.heap.size+1,0,none⟩ .nilIface).drew w.heap.size 3 (.int .i64 x):=(k0.set _).other (by omega) _;have q1:Boxed (((W.setCell ⟨b,1,none⟩ (.int .i64 v)).setCell ⟨w.heap.size,0,none⟩ (.int .i64 x)).setCell ⟨w.heap.size+1,0,none⟩ .nilIface).drew (w.heap.size+1) 178 .nilIface:=(k1.other (by omega) _).set _;have hbb:(((W.setCell ⟨b,1,none⟩ (.int .i64 v)).setCell ⟨w.heap.size,0,none⟩ (.int .i64 x)).setCell ⟨w.heap.size+1,0,none⟩ .nilIface).heap[b]?=some (.cells #[.string (str s),.int .i64 v] 176 (0,0)):=by
  rw[Below.heap_setCell _ _ _ _ (by dsimp only;omega),Below.heap_setCell _ _ _ _ (by dsimp only;omega)];simp[World.setCell,Array.getElem?_modify,hb]
 refine⟨hK2,?_,?_,?_,?_⟩
 ·exact(z0Y q0 (grownBy_putObj' _ D (.deferred none)) (fun r e=>by cases e;exact⟨_,hK2,rfl⟩)).cell
 ·exact(z0Y q1 (grownBy_putObj' _ D (.deferred none)) (fun r e=>by cases e;exact⟨_,hK2,rfl⟩)).cell
 ·refine⟨hbl.os,hbl.tape,hbl.output,?_,fun k hk hne=> ?_⟩
  ·have:=hbl.size;have:=(grownBy_putObj' (((W.setCell ⟨b,1,none⟩ (.int .i64 v)).setCell ⟨w.heap.size,0,none⟩ (.int .i64 x)).setCell ⟨w.heap.size+1,0,none⟩ .nilIface).drew D (.deferred none)).size;simp[World.size_setCell,World.drew]at this ⊢;omega
  ·rw[World.putObj_heap_other (fun e=>by omega)];show(((W.setCell ⟨b,1,none⟩ (.int .i64 v)).setCell ⟨w.heap.size,0,none⟩ (.int .i64 x)).setCell ⟨w.heap.size+1,0,none⟩ .nilIface).heap[k]?=_;have hkb:k≠b:=fun e=>hne (by rw[e]);rw[Below.heap_setCell _ _ _ _ (by dsimp only;omega),Below.heap_setCell _ _ _ _ (by dsimp only;omega),Below.heap_setCell _ _ _ _ (by dsimp only;omega),hbl.block k hk]
 ·rw[World.putObj_heap_other (fun e=>by omega)];exact hbb
theorem zn0(s:zB)(a:Nat):Begs s a (z2D s a):=List.prefix_refl _
theorem zlR(s:zB)(a:Nat)(b:Nat)(a0 a1:Addr)(w:World)(hs:s.length<1125899906842624)(hin:a<s.length)
  (hG:GlobW w a0 a1) (hb:w.heap[b]?=some (.cells #[.string (str s),.int .i64 a] 176 (0,0))):
  Calls Tryz.prog 100 #[.pointer (some ⟨b,0,none⟩)] w (z4f s a b a0 a1 w):=by
 have ze:Tryz.prog.follows .mixedOrders=true:=by kernel_rfl
 have hblt:=z4o hb;have c0:w.cell? ⟨b,0,none⟩=some (.string (str s)):=z1l hb 0;have c1:w.cell? ⟨b,0+1,none⟩=some (.int .i64 a):=z1l hb 1;have e0:=hG.e0;have e1:=hG.e1;have g0:=z1d e0;have g1:=z1d e1
 dsimp only at g0 g1
 have g00:0<w.heap.size:=by omega
 have hhas:∀W,Calls Tryz.prog 134 #[.string (str s),.int .i64 a,.int .i64 1] W fun e w'=>e=.returned (.bool true)∧w'=W:=fun W=>by
  have:=z9E s a 1 W (by omega) (by omega) (by omega)
  rwa [decide_eq_true (by omega)]at this
 have HH:=Lib.hid hhas;have HG:=Lib.hid hG;have HB:=Lib.hid hb;clear hhas hG hb;refine callsIn_wide.1 (callsIn_of_wp_marks (n:=9) Tryz.func100 rfl trivial (wpIn_wide.2 ?_) rfl);simp only[Tryz.ntmps100,List.size_toArray,List.length_cons,List.length_nil,Nat.reduceAdd,Nat.reduceSub,Array.replicate_succ,Array.replicate_zero,List.push_toArray,List.append_toArray,List.nil_append,List.cons_append]
 go_wp2_with fail
 go_step3
 go_wp2_with fail
 refine z0S 9 ze (by kernel_rfl) ?_;simp only[List.take_succ_cons,List.take_zero,List.drop_succ_cons,List.drop_zero]
 iterate 8 still_step
 still_call (HH.out _)
 refine wpStill_nil ?_
 go_wp2_with fail
 go_step3
 go_wp2_with fail
 obtain⟨B0,B1,B2,B3,B4,hsz,hBl⟩:=zr6 w;obtain⟨W0,hW0⟩:∃W0,(((((w.alloc (.cells #[.int .i64 0] 3)).alloc (.cells #[.nilIface] 178)).alloc (.cells #[.int .u64 0] 173)).alloc (.cells #[.int .u64 0] 173)).alloc (.cells #[.int .i64 0] 3))=W0:=⟨_,rfl⟩
 rw[hW0]at B0 B1 B2 B3 B4 hsz hBl ⊢;clear hW0;have d0:=(hBl.cell (p:=⟨b,0,none⟩) hblt).trans c0;have d1:=(hBl.cell (p:=⟨b,0+1,none⟩) hblt).trans c1;have HS:=Lib.hid hsz;clear hsz;refine z0S 8 ze (by kernel_rfl) ?_;simp only[List.take_succ_cons,List.take_zero,List.drop_succ_cons,List.drop_zero]
 iterate 8 still_step
 refine wpStill_nil ?_
 go_wp2_with fail
 refine(znF _ _ _).mono ?_;rintro e w' ⟨rfl,rfl⟩
 go_wp2_with fail
 have BT0:=(Boxed.new W0 174 (.string (str s))).alloc (.cells #[.int .i64 a] 3);have BA0:=Boxed.new (W0.alloc (.cells #[.string (str s)] 174)) 3 (.int .i64 a);rw[World.size_alloc]at BA0;obtain⟨W1,hW1⟩:∃W1,((W0.alloc (.cells #[.string (str s)] 174)).alloc (.cells #[.int .i64 a] 3)).drew.drew=W1:=⟨_,rfl⟩
 have BT:Boxed W1 W0.heap.size 174 (.string (str s)):=by rw[←hW1];exact BT0
 have BA:Boxed W1 (W0.heap.size+1) 3 (.int .i64 a):=by rw[←hW1];exact BA0
 have b0:Boxed W1 w.heap.size 3 (.int .i64 0):=by rw[←hW1];exact(B0.alloc _).alloc _
 have b1:Boxed W1 (w.heap.size+1) 178 .nilIface:=by rw[←hW1];exact(B1.alloc _).alloc _
 have b2:Boxed W1 (w.heap.size+1+1) 173 (.int .u64 0):=by rw[←hW1];exact(B2.alloc _).alloc _
 have b3:Boxed W1 (w.heap.size+1+1+1) 173 (.int .u64 0):=by rw[←hW1];exact(B3.alloc _).alloc _
 have b4:Boxed W1 (w.heap.size+1+1+1+1) 3 (.int .i64 0):=by rw[←hW1];exact(B4.alloc _).alloc _
 have hBl1:Below w.heap.size w W1:=by rw[←hW1];exact((((hBl).alloc hBl.size _).alloc (by have:=hBl.size;simp;omega) _).drew).drew
 have hs1:W1.heap.size=w.heap.size+7:=by rw[←hW1];simp[World.drew,HS.out]
 rw[hW1];have H0:=HS.out;clear BT0 BA0 hW1 B0 B1 B2 B3 B4 hBl d0 d1;refine(wpIn_wide (n:=9)).1 (wpIn_rangeFunc_ownG rfl (by omega) (gf:=164) (lb:= #[.pointer (some ⟨W0.heap.size+1,0,none⟩),.pointer (some ⟨W0.heap.size,0,none⟩)]) rfl trivial (enters_of Tryz.func164 (by kernel_rfl) rfl)
  (zj3 8 (W0.heap.size+1) W0.heap.size s a (by omega) hs W1 BA.cell BT.cell) zhL (zq3 (by omega) (by omega)) (Below.refl _ _) (fun _=>rfl)
  (fun pre W=>∃m sg,Mids s a w.heap.size w pre W m sg)
  (fun c pre W=>zis s a w.heap.size w a1 c pre W) ?hI ?hIx ⟨0,0,b2,b3,b4,b0,b1,by omega,by omega,by omega,hBl1,fun _=>⟨rfl,rfl,rfl,by decide,by simp⟩⟩ ?a1 ?assign ?body ?done ?stop)
 case hI=>
  rintro pre X Y row ⟨m,sg,h⟩ hg hr;have hr':=fun r e=>(hr r e).2;exact⟨m,sg,z0Y h.bm hg hr',z0Y h.bs hg hr',z0Y h.bz hg hr',z0Y h.b0 hg hr',z0Y h.b1 hg hr',h.m0,h.m1,h.s0,h.bl.grown hg h.bl.size (fun k e=>by have:=(hr k e).1;omega),h.good⟩
 case hIx=>
  rintro c pre X Y row ⟨hbl,h⟩ hg hr;have hr':=fun r e=>(hr r e).2;refine⟨hbl.grown hg hbl.size (fun k e=>by have:=(hr k e).1;omega),?_⟩;rcases h with⟨hc,h0,h1,hgd⟩|⟨hc,m,sg,z,h2,h3,h4,h0,h1,hz,hgd⟩
  ·exact .inl ⟨hc,z0Y h0 hg hr',z0Y h1 hg hr',hgd⟩
  ·exact .inr ⟨hc,m,sg,z,z0Y h2 hg hr',z0Y h3 hg hr',z0Y h4 hg hr',z0Y h0 hg hr',z0Y h1 hg hr',hz,hgd⟩
 case assign=>
  intro l x W K hK
  gi_wp2
  exact hK
 case body=>
  rintro l pre ⟨⟨k,hk⟩,y⟩ W ⟨m,sg,h⟩ hlt
  dsimp only
  have hy:y.toNat<256:=y.toNat_lt;have hm0:=h.m0;have hm1:=h.m1;have cm:=h.bm.cell;have fm:=h.bm.frozen;have cs:=h.bs.cell;have fs:=h.bs.frozen;have cz:=h.bz.cell;have fz:=h.bz.frozen;have cr:=h.b0.cell;have fr:=h.b0.frozen;have ce:=h.b1.cell;have fe:=h.b1.frozen;have hMi:=Lib.hid h;clear h H0 BT BA b0 b1 b2 b3 b4 hBl1 hlt c0 c1 e0;have hand:bits .and .u8 (y.toNat:Int) 127=((y.toNat%128:Nat):Int):=by
   have:=(by decide+kernel:∀z:Fin 256,bits .and .u8 ((z.val:Nat):Int) 127=((z.val%128:Nat):Int)) ⟨y.toNat,hy⟩
   exact this
  obtain⟨X,hX⟩:∃X:Mor.Ix×UInt8,X=(⟨k,hk⟩,y):=⟨_,rfl⟩
  have hXk:X.1.val=k:=by rw[hX]
  have hXy:X.2=y:=by rw[hX]
  rw[←hX];have HX1:=Lib.hid hXk;have HX2:=Lib.hid hXy;clear hX hXk hXy;by_cases hk0:k=0
  ·subst hk0;by_cases hlo:y.toNat<128
   ·gi_wp2_with fail
    refine zrd hMi.out (y.toNat%128 / 2) (y.toNat%128%2) (by omega) (by omega) (fun hg=> ?_);rw[Mid.ok hs hMi.out.good (by rw[HX1.out];simp) (by rw[HX2.out];exact hlo) hg,HX1.out];simp[z2F,HX1.out,HX2.out]
   ·gi_wp2_with fail
    refine zre hMi.out (y.toNat%128 / 2) (y.toNat%128%2) (by omega) (by omega) (by omega) (Ba:=W0.heap.size+1) (Bt:=W0.heap.size) (by have:=HS.out;omega) HS.out (fun hg=> ?_);have:=Mid.cont hs hMi.out.good (by rw[HX1.out];simp) (by rw[HX2.out];omega) hg;simpa [z2F,HX1.out,HX2.out]using this
  ·have hk1:((k:Int)==0)=false:=by simp;omega
   by_cases hbad:y.toNat=0∨k=9∧1<y.toNat
   ·have HE:Begs s a (pre++[X])→z0P 0 (0,0) (s.drop a)=.error true:=fun hg=>Mid.err hs hMi.out.good (by rw[HX1.out];exact hk0) (by rw[HX1.out,HX2.out];exact hbad) hg;have HE':=Lib.hid HE;have ge:=(hMi.out.bl.cell (p:=⟨0,0,none⟩) g1).trans e1;clear HE;by_cases hy0:y.toNat=0
    ·have hy1:((y.toNat:Int)==0)=true:=by simp;omega
     have HY0:=Lib.hid hy0;clear hy0 hbad
     gi_wp2_with fail
     gi_region_with_o (fail)
     all_goals gi_wp2_with fail
     all_goals exact zkI hMi.out HE'.out rfl
    ·have hy1:((y.toNat:Int)==0)=false:=by simp;omega
     have hk9':((k:Int)==9)=true:=by simp;omega
     have hgt:1<(y.toNat:Int):=by omega
     have HB:=Lib.hid hbad;clear hbad
     gi_wp2_with fail
     gi_region_with_o (fail)
     all_goals gi_wp2_with fail
     all_goals exact zkI hMi.out HE'.out rfl
   ·have hy0:((y.toNat:Int)==0)=false:=by simp;omega
    have hstep:Hid (∀G:Int,G=IntKind.u64.wrap ((y.toNat:Int)%128*2 ^ min (7*k-1) 64)→Begs s a (pre++[X])→bits .or .u64 m G=((z2F (stM pre) X).1:Nat)∧sg=((z2F (stM pre) X).2:Nat)):=
     fun G hG hg=>zqi hs hMi.out.good (by rw[HX1.out];exact hk0) (by rw[HX1.out,HX2.out];exact hbad) (by rw[HX1.out,HX2.out];exact hG) hg
    have hnb:Hid (¬(X.1.val≠0∧(X.2.toNat=0∨X.1.val=9∧1<X.2.toNat))):=by
     show ¬_;rw[HX1.out,HX2.out];exact fun hc=>hbad hc.2
    obtain⟨G,hG0,hG1,HGe,hsh⟩:=zqE Tryz.prog y k hk hk0;have HSH:=Lib.hid hsh;clear hsh;obtain⟨M,hM⟩:∃M,bits .or .u64 m G=M:=⟨_,rfl⟩
    have hMb:0≤M∧M<18446744073709551616:=by
     obtain⟨m,rfl⟩:=Int.eq_ofNat_of_zero_le hm0;obtain⟨G,rfl⟩:=Int.eq_ofNat_of_zero_le hG0;have:=Nat.or_lt_two_pow (n:=64) (x:=m) (y:=G) (by omega) (by omega);rw[←hM,u64_or_nat _ _ (by omega) (by omega)];omega
    obtain⟨hM0,hM1⟩:=hMb;have HM:=Lib.hid hM;clear hM;by_cases hk9:k=9
    ·have hk9':((k:Int)==9)=true:=by simp;omega
     have hgt:¬(1<(y.toNat:Int)):=by omega
     have hHk:=Lib.hid hk9;clear hk9
     gi_wp2_with fail
     have hsh:=HSH.out;have hM:=HM.out;refine z2z (zbU l) 7 ze (by kernel_rfl) ?_;simp only[List.take_succ_cons,List.take_zero,List.drop_succ_cons,List.drop_zero]
     iterate 7 still_step
     refine wpStill_nil ?_;clear hsh hM
     gi_wp2_with fail
     refine zkH hMi.out hk hM0 hMi.out.s0 (fun hg=> ?_);obtain⟨q1,q2⟩:=hstep.out G HGe.out hg;rw[HM.out]at q1;have hlo:y.toNat<128:=by omega
     rw[q1,q2];simpa [HX1.out]using Mid.ok hs hMi.out.good hnb.out (by rw[HX2.out];exact hlo) hg
    ·have hk9':((k:Int)==9)=false:=by simp;omega
     gi_wp2_with fail
     have hsh:=HSH.out;have hM:=HM.out;refine z2z (zbU l) 7 ze (by kernel_rfl) ?_;simp only[List.take_succ_cons,List.take_zero,List.drop_succ_cons,List.drop_zero]
     iterate 7 still_step
     refine wpStill_nil ?_;clear hsh hM
     gi_wp2_with fail
     ·refine zkH hMi.out hk hM0 hMi.out.s0 (fun hg=> ?_);obtain⟨q1,q2⟩:=hstep.out G HGe.out hg;rw[HM.out]at q1;have hlo:y.toNat<128:=by omega
      rw[q1,q2];simpa [HX1.out]using Mid.ok hs hMi.out.good hnb.out (by rw[HX2.out];exact hlo) hg
     ·refine zrf hMi.out hM0 hM1 (Ba:=W0.heap.size+1) (Bt:=W0.heap.size) (by have:=HS.out;omega) HS.out (fun hg=> ?_);obtain⟨q1,q2⟩:=hstep.out G HGe.out hg;rw[HM.out]at q1;have hlo:128≤y.toNat:=by omega
      rw[q1,q2];exact Mid.cont hs hMi.out.good hnb.out (by rw[HX2.out];exact hlo) hg
 case done=>
  rintro D ys W hD rfl ⟨m,sg,h⟩ hK;have cz:=h.bz.cell;have cr:=h.b0.cell;have fr:=h.b0.frozen;have ce:=h.b1.cell;have fe:=h.b1.frozen;have ge:=(h.bl.cell (p:=⟨1,0,none⟩) g0).trans e0;have hMi:=Lib.hid h;have HK:=Lib.hid hK;clear h H0 BT BA b0 b1 b2 b3 b4 hBl1 c0 c1 e0 e1 hK
  go_wp2_with fail
  go_region
  all_goals go_wp2_with fail
  all_goals
   rw[Exit.noGoto_ret];have bx0:Boxed ((W.setCell ⟨w.heap.size,0,none⟩ (.int .i64 0)).setCell ⟨w.heap.size+1,0,none⟩ (.iface 334 (.pointer (some a0)))).drew w.heap.size 3 (.int .i64 0):=(hMi.out.b0.set (.int .i64 0)).other (show w.heap.size≠w.heap.size+1 by omega) (.iface 334 (.pointer (some a0)));have bx1:Boxed ((W.setCell ⟨w.heap.size,0,none⟩ (.int .i64 0)).setCell ⟨w.heap.size+1,0,none⟩ (.iface 334 (.pointer (some a0)))).drew (w.heap.size+1) 178 (.iface 334 (.pointer (some a0))):=(hMi.out.b1.other (show w.heap.size+1≠w.heap.size by omega) (.int .i64 0)).set (.iface 334 (.pointer (some a0)));have hK2:=zhM (((KeepsOthers.setCell W ⟨w.heap.size,0,none⟩ (.int .i64 0)).trans (KeepsOthers.setCell _ ⟨w.heap.size+1,0,none⟩ (.iface 334 (.pointer (some a0))))).trans (KeepsOthers.drew _)) HK.out rfl;refine⟨by simp,.inl ⟨_,_,rfl,run_takeDeferred hK2,?_⟩⟩;have r0:=(z0Y bx0 (grownBy_putObj' _ D (.deferred none)) (fun r e=>by cases e;exact⟨_,hK2,rfl⟩)).cell;have r1:=(z0Y bx1 (grownBy_putObj' _ D (.deferred none)) (fun r e=>by cases e;exact⟨_,hK2,rfl⟩)).cell;refine⟨.tuple #[.int .i64 0,.iface 334 (.pointer (some a0))],by simp[results,Tryz.results100,go_sem,r0,r1],?_⟩
   have hgo:=(hMi.out.good (zn0 s a)).go;rw[z4N,show a+(s.length-a)=s.length by omega,List.drop_length]at hgo;unfold z4f;rw[zm5 hin hgo];exact⟨rfl,(((hMi.out.bl.setCell (p:=⟨w.heap.size,0,none⟩) (Nat.le_refl _) _).setCell (p:=⟨w.heap.size+1,0,none⟩) (by dsimp only;omega) _).drew).trans (belowK_b (w:=w) (Nat.le_refl _) _ D _ _ (by omega) hK2 rfl rfl)⟩
 case stop=>
  rintro D c pre W hD hSp ⟨hbl,hO⟩ hK;have HK:=Lib.hid hK;have HL:=Lib.hid hbl;rcases hO with⟨rfl,bx0,bx1,hgd⟩|⟨rfl,m,sg,z,bm,bs,bz,bx0,bx1,hz,hgd⟩
  ·refine wpIn_wide.2 ?_;have hgo:=hgd hSp;clear H0 BT BA b0 b1 b2 b3 b4 hBl1 c0 c1 e0 e1 hK hgd hbl
   go_wp2_with fail
   rw[Exit.noGoto_ret];have hK2:=HK.out;refine⟨by simp,.inl ⟨_,_,rfl,run_takeDeferred hK2,?_⟩⟩;have r0:=(z0Y bx0 (grownBy_putObj' _ D (.deferred none)) (fun r e=>by cases e;exact⟨_,hK2,rfl⟩)).cell;have r1:=(z0Y bx1 (grownBy_putObj' _ D (.deferred none)) (fun r e=>by cases e;exact⟨_,hK2,rfl⟩)).cell;refine⟨.tuple #[.int .i64 0,.iface 334 (.pointer (some a1))],by simp[results,Tryz.results100,go_sem,r0,r1],?_⟩;unfold z4f;rw[zm5 hin hgo];exact⟨rfl,HL.out.trans (belowK_b (w:=w) (Nat.le_refl _) _ D _ _ (by omega) hK2 rfl rfl)⟩
  ·have HR:=Lib.hid (zt2 hin (hgd hSp));have hb2:W.heap[b]?=some (.cells #[.string (str s),.int .i64 a] 176 (0,0)):=(hbl.block b hblt).trans HB.out;have d0:W.cell? ⟨b,0,none⟩=some (.string (str s)):=z1l hb2 0;have d1:W.cell? ⟨b,0+1,none⟩=some (.int .i64 a):=z1l hb2 1;have d2:W.frozen? ⟨b,0+1,none⟩=false:=zbs hb2 1;have cm:=bm.cell;have cs:=bs.cell;have cz:=bz.cell;have cr:=bx0.cell;have fr:=bx0.frozen;have ce:=bx1.cell;have fe:=bx1.frozen;have hHB:=Lib.hid hb2;have hlz:(((z:Int)+1)==0)=false:=by simp;omega
   obtain⟨hm63,hsg1,hz0,hz10,hzl⟩:=z81 (s.drop a) 0 (0,0) (by omega) (by decide) (.inl rfl) (hgd hSp);have hm63':(m:Int)<9223372036854775808:=by omega
   simp only[List.length_drop]at hzl;clear H0 BT BA b0 b1 b2 b3 b4 hBl1 c0 c1 e0 e1 hK hgd hbl hb2;refine wpIn_wide.2 ?_;by_cases hsg:sg=1;all_goals
    first
     |have hsgB:((sg:Int)==1)=true:=by simp;omega
     |have hsgB:((sg:Int)==1)=false:=by simp;omega
    have HSG:=Lib.hid hsg;clear hsg
    go_wp2_with fail
    have hw1:IntKind.i64.wrap ((a:Int)+((z:Int)+1))=(a:Int)+((z:Int)+1):=IntWalk.i64_in _ (by omega);refine z0S 8 ze (by kernel_rfl) ?_;simp only[List.take_succ_cons,List.take_zero,List.drop_succ_cons,List.drop_zero]
    iterate 8 still_step
    refine wpStill_nil ?_;clear hw1
    go_wp2_with fail
    rw[Exit.noGoto_ret];obtain⟨hK2,r0,r1,hgr,hbk⟩:=zpI HL.out hHB.out hblt HK.out (by omega) bx0 bx1 rfl;refine⟨by simp,.inl ⟨_,_,rfl,run_takeDeferred hK2,?_⟩⟩;refine⟨_,by simp[results,Tryz.results100,go_sem,r0,r1];rfl,?_⟩;unfold z4f;rw[HR.out];first
     |(rw[if_pos HSG.out];exact⟨rfl,hgr,hbk⟩)
     |(rw[if_neg HSG.out];exact⟨rfl,hgr,hbk⟩)
end
theorem zbT(s:zB)(a:Int)(b:Nat)(a0 a1:Addr)(w:World)(hs:s.length<1125899906842624)(ha0: -9223372036854775808≤a)(ha1:a≤9223372036854775807)
  (hG:GlobW w a0 a1) (hb:w.heap[b]?=some (.cells #[.string (str s),.int .i64 a] 176 (0,0))):
  Calls Tryz.prog 100 #[.pointer (some ⟨b,0,none⟩)] w (z4f s a b a0 a1 w):=by
 by_cases hin:0≤a∧a<s.length
 ·obtain⟨a,rfl⟩:=Int.eq_ofNat_of_zero_le hin.1;exact zlR s a b a0 a1 w hs (by omega) hG hb
 ·refine(zjq s a b a0 a1 w hs ha0 ha1 hG hb hin).mono ?_;rintro e w' ⟨rfl,hbl⟩;unfold z4f;rw[zs1 hin];exact⟨rfl,hbl⟩
theorem zhn(w:World)(t:TypeId)(cs:Array Value):(w.alloc (.cells cs t)).heap[w.heap.size]?=some (.cells cs t (0,0)):=World.alloc_heap_new w _
theorem z6o{w w':World}{o:Obj}(hg:(w.alloc o).grownBy w' (some w.heap.size)):Below w.heap.size w w':=
 ((Below.refl w.heap.size w).alloc (Nat.le_refl _) o).grown hg (by simp) (fun k e=>by cases e;exact Nat.le_refl _)
theorem zgD(s:zB)(a:Int)(a0 a1:Addr)(w:World)(hs:s.length<1125899906842624)(ha0: -9223372036854775808≤a)(ha1:a≤9223372036854775807)(hG:GlobW w a0 a1):
  Calls Tryz.prog 73 #[.string (str s),.int .i64 a] w fun e w'=>
   e=.returned (zlQ (z06 s a))∧Below w.heap.size w w':=by
 have ze:Tryz.prog.follows .mixedOrders=true:=by kernel_rfl
 have hB1:Below w.heap.size w (w.alloc (.cells #[.string (str s),.int .i64 a] 176)):=(Below.refl _ _).alloc (Nat.le_refl _) _;have hG1:=hG.ext hB1;have HN:=Lib.hid (zbT s a w.heap.size a0 a1 _ hs ha0 ha1 hG1 (zhn w 176 #[.string (str s),.int .i64 a]));have HG:=Lib.hid hG;clear hG hG1
 go_enter Tryz.func73,Tryz.ntmps73
 go_wp2_with fail
 refine HN.out.mono ?_;intro e w' hp;unfold z4f at hp;cases hr:rd s a with
 |error t=>
  rw[hr]at hp;have hrn:z06 s a=none:=by simp[z06,hr]
  have HRN:=Lib.hid hrn;clear hr hrn;cases t
  ·obtain⟨rfl,hbl⟩:=hp;have hbl':=hB1.trans (hbl.mono (by simp));have HW:=Lib.hid (zdY w' a0 a1 (HG.out.ext hbl'))
   go_wp2_with fail
   refine HW.out.mono ?_;rintro e w2 ⟨rfl,rfl⟩
   go_wp2_with fail
   go_ret3
   exact⟨by rw[HRN.out];rfl,hbl'⟩
  ·obtain⟨rfl,hbl⟩:=hp;have hbl':=hB1.trans (hbl.mono (by simp));have HW:=Lib.hid (zct w' a0 a1 (HG.out.ext hbl'))
   go_wp2_with fail
   refine HW.out.mono ?_;rintro e w2 ⟨rfl,rfl⟩
   go_wp2_with fail
   go_ret3
   exact⟨by rw[HRN.out];rfl,hbl'⟩
 |ok p=>
  obtain⟨n,z⟩:=p;rw[hr]at hp;have hrn:z06 s a=some (n,a+z):=by simp[z06,hr]
  have HRN:=Lib.hid hrn;clear hr hrn;obtain⟨rfl,hgr,hbk⟩:=hp;have hbl':=z6o hgr;have HW:=Lib.hid (zdZ w' a0 a1 (HG.out.ext hbl'));have c1:w'.cell? ⟨w.heap.size,0+1,none⟩=some (.int .i64 (a+z)):=z1l hbk 1
  go_wp2_with fail
  refine HW.out.mono ?_;rintro e w2 ⟨rfl,rfl⟩
  go_wp2_with fail
  refine z0S 5 ze (by kernel_rfl) ?_;simp only[List.take_succ_cons,List.take_zero,List.drop_succ_cons,List.drop_zero]
  iterate 5 still_step
  refine wpStill_nil ?_
  go_wp2_with fail
  go_ret3
  exact⟨by rw[HRN.out];rfl,hbl'.drew⟩
theorem zmV(s:zB)(w:World)(hs:s.length≤9223372036854775807):
  Calls Tryz.prog 70 #[.string (str s)] w fun e w'=>
   e=.returned (z7m s)∧Below w.heap.size w w':=by
 by_cases hl:s.length≤10000
 ·have hnl:=z0n (s.length:Int)
  go_enter Tryz.func70,Tryz.ntmps70
  go_wp2_with fail
  refine(zhj _ (by omega) (by omega) _).mono ?_;rintro e w2 ⟨rfl,hb2⟩
  go_wp2_with fail
  go_ret2
  exact⟨by rw[z7m,if_pos hl];rfl,hb2⟩
 ·go_enter Tryz.func70,Tryz.ntmps70
  go_wp2_with fail
  go_ret2
  exact⟨by rw[z7m,if_neg hl];rfl,Below.refl _ _⟩
def z2T(s:zB)(a:Int)(b:Nat)(a0 a1:Addr)(w:World)(e:Ending)(w':World):Prop:=
 match rdW s a with
 | .ok (t,z)=>e=.returned (.tuple #[.string (str t),.nilIface])∧w.grownBy w' (some b)∧w'.heap[b]?=some (.cells #[.string (str s),.int .i64 z] 176 (0,0))
 | .error false=>e=.returned (.tuple #[.string (str []),.iface 334 (.pointer (some a0))])∧w.grownBy w' (some b)
 | .error true=>e=.returned (.tuple #[.string (str []),.iface 334 (.pointer (some a1))])∧w.grownBy w' (some b)
theorem z7b{w w':World}{r:Option Nat}(h:Below w.heap.size w w'):w.grownBy w' r:=⟨h.os,h.tape,h.output,h.size,fun k hk _=>h.block k hk⟩
theorem z3C{w w':World}{r:Option Nat}(h:w.grownBy w' r):w.grownBy w'.drew r:=⟨h.os,h.tape,h.output,h.size,h.block⟩
theorem zgT{w w' w2:World}{r:Option Nat}(h:w.grownBy w' r)(h2:w'.grownBy w2 r):w.grownBy w2 r:=
 ⟨h2.os.trans h.os,h2.tape.trans h.tape,h2.output.trans h.output,Nat.le_trans h.size h2.size,fun k hk hn=>(h2.block k (Nat.lt_of_lt_of_le hk h.size) hn).trans (h.block k hk hn)⟩
theorem zmM(s:zB)(a:Int)(b:Nat)(a0 a1:Addr)(w:World)(hs:s.length<1125899906842624)(ha0: -9223372036854775808≤a)(ha1:a≤9223372036854775807)
  (hG:GlobW w a0 a1) (hb:w.heap[b]?=some (.cells #[.string (str s),.int .i64 a] 176 (0,0))) (hbG:1≠b∧0≠b):
  Calls Tryz.prog 98 #[.pointer (some ⟨b,0,none⟩)] w (z2T s a b a0 a1 w):=by
 have ze:Tryz.prog.follows .mixedOrders=true:=by kernel_rfl
 have HN:=Lib.hid (zbT s a b a0 a1 w hs ha0 ha1 hG hb);have HG:=Lib.hid hG;have HB:=Lib.hid hb;clear hG hb
 go_enter Tryz.func98,Tryz.ntmps98
 go_wp2_with fail
 refine HN.out.mono ?_;intro e w' hp;unfold z4f at hp;cases hr:rd s a with
 |error t=>
  rw[hr]at hp;have hrn:rdW s a=.error t:=by simp[rdW,hr]
  have HRN:=Lib.hid hrn;clear hr hrn;cases t
  ·obtain⟨rfl,hbl⟩:=hp
   go_wp2_with fail
   go_ret2
   unfold z2T;rw[HRN.out];exact⟨rfl,z7b hbl⟩
  ·obtain⟨rfl,hbl⟩:=hp
   go_wp2_with fail
   go_ret2
   unfold z2T;rw[HRN.out];exact⟨rfl,z7b hbl⟩
 |ok p=>
  obtain⟨n,z⟩:=p;rw[hr]at hp;have hbd:=zb3 hr;have HR:=Lib.hid hr;clear hr;obtain⟨rfl,hgr,hbk⟩:=hp;have e0:=(World.cell?_of_block (w:=w) (a:=⟨1,0,none⟩) (hgr.block 1 (z1d HG.out.e0) (by simpa using hbG.1))).trans HG.out.e0;have e1:=(World.cell?_of_block (w:=w) (a:=⟨0,0,none⟩) (hgr.block 0 (z1d HG.out.e1) (by simpa using hbG.2))).trans HG.out.e1;have d0:w'.cell? ⟨b,0,none⟩=some (.string (str s)):=z1l hbk 0;have d1:w'.cell? ⟨b,0+1,none⟩=some (.int .i64 (a+z)):=z1l hbk 1;have d2:w'.frozen? ⟨b,0+1,none⟩=false:=zbs hbk 1;have HBK:=Lib.hid hbk;clear hbk;by_cases hbad:n<0∨10000<n
  ·have HRN:Hid (rdW s a=.error true):=by show _=_;unfold rdW;rw[HR.out];exact if_pos hbad
   have HBD:=Lib.hid hbad;clear hbad;by_cases hn0:n<0
   ·go_wp2_with fail
    go_region
    go_wp2_with fail
    go_ret2
    unfold z2T;rw[HRN.out];exact⟨rfl,z3C hgr⟩
   ·have hn1:10000<n:=by have:=HBD.out;omega
    go_wp2_with fail
    go_region
    go_wp2_with fail
    go_ret2
    unfold z2T;rw[HRN.out];exact⟨rfl,z3C hgr⟩
  ·have hn0:0≤n:=by omega
   have hn1:n≤10000:=by omega
   clear hbad;by_cases hfit:(s.length:Int) - (a+z)<n
   ·have HRN:Hid (rdW s a=.error false):=by
     show _=_;unfold rdW;rw[HR.out];dsimp only;rw[if_neg (by omega),if_pos hfit]
    have hhas:∀W,Calls Tryz.prog 134 #[.string (str s),.int .i64 (a+z),.int .i64 n] W fun e w'=>e=.returned (.bool false)∧w'=W:=fun W=>by
     have:=z9E s (a+z) n W (by omega) (by omega) (by omega)
     rwa [decide_eq_false (by omega)]at this
    have HH:=Lib.hid hhas;clear hhas
    go_wp2_with fail
    refine z0S 10 ze (by kernel_rfl) ?_;simp only[List.take_succ_cons,List.take_zero,List.drop_succ_cons,List.drop_zero]
    iterate 9 still_step
    still_call (HH.out _)
    refine wpStill_nil ?_
    go_wp2_with fail
    go_region
    all_goals go_wp2_with fail
    all_goals go_ret2
    all_goals unfold z2T
    all_goals rw[HRN.out]
    all_goals exact⟨rfl,z3C (z3C hgr)⟩
   ·have HRN:Hid (rdW s a=.ok ((s.drop (a+z).toNat).take n.toNat,a+z+n)):=by
     show _=_;unfold rdW;rw[HR.out];dsimp only;rw[if_neg (by omega),if_neg hfit]
    have hhas:∀W,Calls Tryz.prog 134 #[.string (str s),.int .i64 (a+z),.int .i64 n] W fun e w'=>e=.returned (.bool true)∧w'=W:=fun W=>by
     have:=z9E s (a+z) n W (by omega) (by omega) (by omega)
     rwa [decide_eq_true (by omega)]at this
    have HH:=Lib.hid hhas;clear hhas
    go_wp2_with fail
    refine z0S 10 ze (by kernel_rfl) ?_;simp only[List.take_succ_cons,List.take_zero,List.drop_succ_cons,List.drop_zero]
    iterate 9 still_step
    still_call (HH.out _)
    refine wpStill_nil ?_
    go_wp2_with fail
    have hb3:(w'.setCell ⟨b,1,none⟩ (.int .i64 (a+z+n))).heap[b]?=some (.cells #[.string (str s),.int .i64 (a+z+n)] 176 (0,0)):=by
     have:=HBK.out;simp[World.setCell,Array.getElem?_modify,this]
    have hg3:w.grownBy (w'.setCell ⟨b,1,none⟩ (.int .i64 (a+z+n))) (some b):=zgT hgr ⟨rfl,rfl,rfl,by simp,fun k _ hk=>Below.heap_setCell _ _ _ k (fun e=>hk (by rw[e]))⟩;obtain⟨W3,hW3⟩:∃W3,(w'.setCell ⟨b,1,none⟩ (.int .i64 (a+z+n)))=W3:=⟨_,rfl⟩
    rw[hW3]at hb3 hg3 ⊢;clear hW3 d0 d1 d2 hgr e0 e1;have d0:W3.cell? ⟨b,0,none⟩=some (.string (str s)):=z1l hb3 0;have d1:W3.cell? ⟨b,0+1,none⟩=some (.int .i64 (a+z+n)):=z1l hb3 1;have HB3:=Lib.hid hb3;clear hb3;have hw1:IntKind.i64.wrap (a+z)=a+z:=IntWalk.i64_in _ (by omega);have hw5:(0:Int)≤a+z+n:=by omega
    have hw2:(0:Int)≤a+z:=by omega
    have hw3:a+z≤a+z+n:=by omega
    have hw4:a+z+n≤s.length:=by omega
    refine z0S 16 ze (by kernel_rfl) ?_;simp only[List.take_succ_cons,List.take_zero,List.drop_succ_cons,List.drop_zero]
    iterate 16 still_step
    refine wpStill_nil ?_;clear hw1
    go_wp2_with fail
    go_ret2
    unfold z2T;rw[HRN.out];refine⟨?_,z3C (z3C hg3),HB3.out⟩;have e1:(a+z+n).toNat-(a+z).toNat=n.toNat:=by omega
    simp[e1]
theorem zpY{w:World}{a0 a1:Addr}(hG:GlobW w a0 a1):1≠w.heap.size∧0≠w.heap.size:=by
 have h0:=z1d hG.e0;have h1:=z1d hG.e1
 dsimp only at h0 h1
 omega
theorem zeC(s:zB)(a:Int)(a0 a1:Addr)(w:World)(hs:s.length<1125899906842624)(ha0: -9223372036854775808≤a)(ha1:a≤9223372036854775807)(hG:GlobW w a0 a1):
  Calls Tryz.prog 72 #[.string (str s),.int .i64 a] w fun e w'=>e=.returned (zi2 (zU s a))∧Below w.heap.size w w':=by
 have ze:Tryz.prog.follows .mixedOrders=true:=by kernel_rfl
 have hB1:Below w.heap.size w (w.alloc (.cells #[.string (str s),.int .i64 a] 176)):=(Below.refl _ _).alloc (Nat.le_refl _) _;have hG1:=hG.ext hB1;have HN:=Lib.hid (zmM s a w.heap.size a0 a1 _ hs ha0 ha1 hG1 (zhn w 176 #[.string (str s),.int .i64 a]) (zpY hG));have HG:=Lib.hid hG;clear hG hG1
 go_enter Tryz.func72,Tryz.ntmps72
 go_wp2_with fail
 refine HN.out.mono ?_;intro e w' hp;unfold z2T at hp;cases hr:rdW s a with
 |error t=>
  rw[hr]at hp;have hrn:zU s a=none:=by simp[zU,hr]
  have HRN:=Lib.hid hrn;clear hr hrn;cases t
  ·obtain⟨rfl,hgr⟩:=hp;have hbl':=z6o hgr;have HW:=Lib.hid (zdY w' a0 a1 (HG.out.ext hbl'))
   go_wp2_with fail
   refine HW.out.mono ?_;rintro e w2 ⟨rfl,rfl⟩
   go_wp2_with fail
   go_ret3
   exact⟨by rw[HRN.out];rfl,hbl'⟩
  ·obtain⟨rfl,hgr⟩:=hp;have hbl':=z6o hgr;have HW:=Lib.hid (zct w' a0 a1 (HG.out.ext hbl'))
   go_wp2_with fail
   refine HW.out.mono ?_;rintro e w2 ⟨rfl,rfl⟩
   go_wp2_with fail
   go_ret3
   exact⟨by rw[HRN.out];rfl,hbl'⟩
 |ok p=>
  obtain⟨t,z⟩:=p;rw[hr]at hp;have hrn:zU s a=some (t,z):=by simp[zU,hr]
  have HRN:=Lib.hid hrn;clear hr hrn;obtain⟨rfl,hgr,hbk⟩:=hp;have hbl':=z6o hgr;have HW:=Lib.hid (zdZ w' a0 a1 (HG.out.ext hbl'));have c1:w'.cell? ⟨w.heap.size,0+1,none⟩=some (.int .i64 z):=z1l hbk 1
  go_wp2_with fail
  refine HW.out.mono ?_;rintro e w2 ⟨rfl,rfl⟩
  go_wp2_with fail
  refine z0S 5 ze (by kernel_rfl) ?_;simp only[List.take_succ_cons,List.take_zero,List.drop_succ_cons,List.drop_zero]
  iterate 5 still_step
  refine wpStill_nil ?_
  go_wp2_with fail
  go_ret3
  exact⟨by rw[HRN.out];rfl,hbl'.drew⟩
end Go.Proofs.YtpmlapgbmgbilaaGreatDoor
end
