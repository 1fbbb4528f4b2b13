/- Merged texts: Wire5 PWire3 Wire6 Pr1 Plain PSign Sy1 Sy2 Sy3 Sy4. No statement of the program is proved here. -/
import Derived.Test.YtdlolkogifigpaaDoorM3
import Derived.Deep.QuietTactic
import Derived.BigQuiet
import Derived.Lib.ValidU
import Derived.Lib.TrimUEq
import Derived.Lib.ValidLaws
set_option linter.unusedSimpArgs false
set_option linter.unusedVariables false
section
/- Layer 1: (*reader).number. -/
namespace Go.Proofs.YtdlolkogifigpaaDoor
open Go Go.RowKit Go.Mor Go.Shelf
attribute [local go_sem] Oper.semAt_some

/-- What (*reader).number leaves. -/
def NumPost (s : List UInt8) (a : Int) (b : Nat) (a0 a1 : Addr) (w : World) (e : Ending) (w' : World) : Prop :=
  match rd s a with
  | .ok (n, z) => e = .returned (.tuple #[.int .i64 n, .nilIface]) ∧ w.grownBy w' (some b) ∧ w'.heap[b]? = some (.cells #[.string (str s), .int .i64 (a + z)] 110 (0, 0))
  | .error false => e = .returned (.tuple #[.int .i64 0, .iface 184 (.pointer (some a0))]) ∧ Below w.heap.size w w'
  | .error true => e = .returned (.tuple #[.int .i64 0, .iface 184 (.pointer (some a1))]) ∧ Below w.heap.size w w'

theorem blk_cells {w : World} {b t : Nat} {cs : Array Value} (h : w.heap[b]? = some (.cells cs t (0, 0))) (i : Nat) : w.cell? ⟨b, i, none⟩ = cs[i]? := by simp [World.cell?, h]
theorem blk_frozen {w : World} {b t : Nat} {cs : Array Value} (h : w.heap[b]? = some (.cells cs t (0, 0))) (i : Nat) : w.frozen? ⟨b, i, none⟩ = false := by simp [World.frozen?, h]

theorem rd_out {s : List UInt8} {a : Int} (h : ¬ (0 ≤ a ∧ a < s.length)) : rd s a = .error false := by simp only [rd, if_neg h]

set_option maxRecDepth 100000 in
set_option maxHeartbeats 2000000 in
theorem number_out (s : List UInt8) (a : Int) (b : Nat) (a0 a1 : Addr) (w : World) (hs : s.length < 1125899906842624) (ha0 : -9223372036854775808 ≤ a) (ha1 : a ≤ 9223372036854775807)
    (hG : Glob w a0 a1) (hb : w.heap[b]? = some (.cells #[.string (str s), .int .i64 a] 110 (0, 0))) (hin : ¬ (0 ≤ a ∧ a < s.length)) :
    Calls Tryd.prog 65 #[.pointer (some ⟨b, 0, none⟩)] w fun e w' => e = .returned (.tuple #[.int .i64 0, .iface 184 (.pointer (some a0))]) ∧ Below w.heap.size w w' := by
  have hmix : Tryd.prog.follows .mixedOrders = true := by kernel_rfl
  have hblt := heap_lt hb
  have c0 : w.cell? ⟨b, 0, none⟩ = some (.string (str s)) := blk_cells hb 0
  have c1 : w.cell? ⟨b, 0 + 1, none⟩ = some (.int .i64 a) := blk_cells hb 1
  have e0 := hG.e0
  have g0 := cell_lt e0
  dsimp only at g0
  have hhas : ∀ W, Calls Tryd.prog 94 #[.string (str s), .int .i64 a, .int .i64 1] W fun e w' => e = .returned (.bool false) ∧ w' = W := fun W => by
    have := has_any s a 1 W (by omega) ha0 ha1
    rwa [decide_eq_false (by omega)] at this
  have HH := Lib.hid hhas
  clear hhas hG hb
  go_enter Tryd.func65, Tryd.ntmps65
  go_wp2_with fail
  go_step3
  go_wp2_with fail
  refine wp_region_tail 9 hmix (by kernel_rfl) ?_; simp only [List.take_succ_cons, List.take_zero, List.drop_succ_cons, List.drop_zero]
  iterate 8 still_step
  still_call (HH.out _)
  refine wpStill_nil ?_
  go_wp2_with fail
  go_region
  all_goals go_wp2_with fail
  all_goals rw [Exit.noGoto_ret]
  all_goals refine bodyPost_ret (v := .tuple #[.int .i64 0, .iface 184 (.pointer (some a0))]) (by simp [results, Tryd.results65, go_sem]) rfl ⟨rfl, by go_grown⟩

theorem from_any (s : List UInt8) (a : Int) (w : World) :
    Calls Tryd.prog 95 #[.string (str s), .int .i64 a] w fun e w' => e = .returned (.func (.func 111) #[] #[.pointer (some ⟨w.heap.size + 1, 0, none⟩), .pointer (some ⟨w.heap.size, 0, none⟩)]) ∧ w' = (w.alloc (.cells #[.string (str s)] 108)).alloc (.cells #[.int .i64 a] 3) :=
  callsIn_wide.1 (from_in 3 s a w)

theorem from_stops (n : Nat) (Ba Bt : Nat) (s : List UInt8) (a : Nat) (ha : a ≤ s.length) (hs : s.length < 1125899906842624) (w : World)
    (hc : w.cell? ⟨Ba, 0, none⟩ = some (.int .i64 a)) (hd : w.cell? ⟨Bt, 0, none⟩ = some (.string (str s))) :
    SeqStopsK Fence.wide n Tryd.prog 111 #[.pointer (some ⟨Ba, 0, none⟩), .pointer (some ⟨Bt, 0, none⟩)] (fun g : Mor.Ix × UInt8 => #[Value.int .i64 g.1.val, Value.int .u8 g.2.toNat]) (Keep2 Ba Bt) (fun ys => ys = pairs s a) (fun pre => pre <+: pairs s a) s.length w := fun l J Jx W hW hJ _ hY h0 =>
  from1_in n l Ba Bt s a ha hs J Jx hY W ((hW.cell (p := ⟨Ba, 0, none⟩) (cell_lt hc)).trans hc) ((hW.cell (p := ⟨Bt, 0, none⟩) (cell_lt hd)).trans hd)
    (fun pre W1 hj => hJ pre W1 W1.drew none hj ⟨rfl, rfl, rfl, Nat.le_refl _, fun _ _ _ => rfl⟩ (fun r e => by cases e)) h0
theorem keep2_t {Ba Bt : Nat} {A B C : World} (h : Keep2 Ba Bt A B) (k : Keep2 Ba Bt B C) : Keep2 Ba Bt A C := ⟨k.1.trans h.1, k.2.trans h.2⟩
theorem keep2_b {Ba Bt : Nat} {w : World} (ha : Ba < w.heap.size) (hb : Bt < w.heap.size) (W : World) (l : Nat) (o o' : Obj) (hl : w.heap.size ≤ l) (_ : W.heap[l]? = some o) (_ : o.isCells = false) (_ : o.isWalk = false) : Keep2 Ba Bt W (W.putObj l o') :=
  ⟨World.putObj_heap_other (fun e => by omega), World.putObj_heap_other (fun e => by omega)⟩
theorem boxKeep {A B : World} {row : Option Nat} {Bk t : Nat} {v : Value} (h : Boxed A Bk t v) (hg : A.grownBy B row) (hr : ∀ r, row = some r → ∃ o : Obj, A.heap[r]? = some o ∧ o.isCells = false) : Boxed B Bk t v :=
  h.kept hg (fun e' => by obtain ⟨o, ho, hc⟩ := hr Bk e'.symm; rw [show A.heap[Bk]? = _ from h] at ho; cases ho; cases hc)

/-- Between two rounds of (*reader).number. -/
structure Mids (s : List UInt8) (a h : Nat) (w : World) (pre : List (Mor.Ix × UInt8)) (W : World) (m sg : Int) : Prop where
  bm : Boxed W (h + 1 + 1) 142 (.int .u64 m)
  bs : Boxed W (h + 1 + 1 + 1) 142 (.int .u64 sg)
  bz : Boxed W (h + 1 + 1 + 1 + 1) 3 (.int .i64 0)
  b0 : Boxed W h 3 (.int .i64 0)
  b1 : Boxed W (h + 1) 112 .nilIface
  m0 : 0 ≤ m
  m1 : m < 18446744073709551616
  s0 : 0 ≤ sg
  bl : Below h w W
  good : Begs s a pre → Mid s a pre m sg
/-- A round of (*reader).number has left. -/
def Outs (s : List UInt8) (a h : Nat) (w : World) (a1 : Addr) (c : Code) (pre : List (Mor.Ix × UInt8)) (W : World) : Prop :=
  Below h w W ∧
  ((c = .ret ∧ Boxed W h 3 (.int .i64 0) ∧ Boxed W (h + 1) 112 (.iface 184 (.pointer (some a1))) ∧ (Begs s a pre → rdGo 0 (0, 0) (s.drop a) = .error true)) ∨
   (c = .exit 0 ∧ ∃ m sg z : Nat, Boxed W (h + 1 + 1) 142 (.int .u64 m) ∧ Boxed W (h + 1 + 1 + 1) 142 (.int .u64 sg) ∧ Boxed W (h + 1 + 1 + 1 + 1) 3 (.int .i64 (z + 1)) ∧ Boxed W h 3 (.int .i64 0) ∧ Boxed W (h + 1) 112 .nilIface ∧ z < 1125899906842624 ∧
     (Begs s a pre → rdGo 0 (0, 0) (s.drop a) = .ok (m, sg, z + 1))))
theorem boxes5 (w : World) : Boxed (((((w.alloc (.cells #[.int .i64 0] 3)).alloc (.cells #[.nilIface] 112)).alloc (.cells #[.int .u64 0] 142)).alloc (.cells #[.int .u64 0] 142)).alloc (.cells #[.int .i64 0] 3)) w.heap.size 3 (.int .i64 0) ∧ Boxed (((((w.alloc (.cells #[.int .i64 0] 3)).alloc (.cells #[.nilIface] 112)).alloc (.cells #[.int .u64 0] 142)).alloc (.cells #[.int .u64 0] 142)).alloc (.cells #[.int .i64 0] 3)) (w.heap.size + 1) 112 .nilIface ∧ Boxed (((((w.alloc (.cells #[.int .i64 0] 3)).alloc (.cells #[.nilIface] 112)).alloc (.cells #[.int .u64 0] 142)).alloc (.cells #[.int .u64 0] 142)).alloc (.cells #[.int .i64 0] 3)) (w.heap.size + 2) 142 (.int .u64 0) ∧ Boxed (((((w.alloc (.cells #[.int .i64 0] 3)).alloc (.cells #[.nilIface] 112)).alloc (.cells #[.int .u64 0] 142)).alloc (.cells #[.int .u64 0] 142)).alloc (.cells #[.int .i64 0] 3)) (w.heap.size + 3) 142 (.int .u64 0) ∧ Boxed (((((w.alloc (.cells #[.int .i64 0] 3)).alloc (.cells #[.nilIface] 112)).alloc (.cells #[.int .u64 0] 142)).alloc (.cells #[.int .u64 0] 142)).alloc (.cells #[.int .i64 0] 3)) (w.heap.size + 4) 3 (.int .i64 0) ∧ (((((w.alloc (.cells #[.int .i64 0] 3)).alloc (.cells #[.nilIface] 112)).alloc (.cells #[.int .u64 0] 142)).alloc (.cells #[.int .u64 0] 142)).alloc (.cells #[.int .i64 0] 3)).heap.size = w.heap.size + 5 ∧ Below w.heap.size w (((((w.alloc (.cells #[.int .i64 0] 3)).alloc (.cells #[.nilIface] 112)).alloc (.cells #[.int .u64 0] 142)).alloc (.cells #[.int .u64 0] 142)).alloc (.cells #[.int .i64 0] 3)) := by
  refine ⟨((((Boxed.new w _ _).alloc _).alloc _).alloc _).alloc _, ?_, ?_, ?_, ?_, by simp, ?_⟩
  · have := Boxed.new (w.alloc (.cells #[.int .i64 0] 3)) 112 .nilIface
    simp only [World.size_alloc] at this
    exact ((this.alloc _).alloc _).alloc _
  · have := Boxed.new ((w.alloc (.cells #[.int .i64 0] 3)).alloc (.cells #[.nilIface] 112)) 142 (.int .u64 0)
    simp only [World.size_alloc] at this
    exact (this.alloc _).alloc _
  · have := Boxed.new (((w.alloc (.cells #[.int .i64 0] 3)).alloc (.cells #[.nilIface] 112)).alloc (.cells #[.int .u64 0] 142)) 142 (.int .u64 0)
    simp only [World.size_alloc] at this
    exact this.alloc _
  · have := Boxed.new ((((w.alloc (.cells #[.int .i64 0] 3)).alloc (.cells #[.nilIface] 112)).alloc (.cells #[.int .u64 0] 142)).alloc (.cells #[.int .u64 0] 142)) 3 (.int .i64 0)
    simp only [World.size_alloc] at this
    exact this
  · go_grown

section
variable {s : List UInt8} {a H B : Nat} {w W : World} {a1 : Addr} {pre q : List (Mor.Ix × UInt8)} {m sg : Int}
theorem set_keep2 {Ba Bt c : Nat} (ha : Ba ≠ c) (hb : Bt ≠ c) (W : World) (v : Value) : Keep2 Ba Bt W (W.setCell ⟨c, 0, none⟩ v) := ⟨Below.heap_setCell _ _ _ _ ha, Below.heap_setCell _ _ _ _ hb⟩
/-- The first byte is the last one. -/
theorem closeA (h : Mids s a H w pre W m sg) (m' sg' : Nat) {v1 v2 : Int} (e1 : v1 = m') (e2 : v2 = sg') (hg : Begs s a q → rdGo 0 (0, 0) (s.drop a) = .ok (m', sg', 1)) :
    KeepsFrom B W (((W.setCell ⟨H + 1 + 1, 0, none⟩ (.int .u64 v1)).setCell ⟨H + 1 + 1 + 1, 0, none⟩ (.int .u64 v2)).setCell ⟨H + 1 + 1 + 1 + 1, 0, none⟩ (.int .i64 1)) ∧
    Outs s a H w a1 (.exit 0) q (((W.setCell ⟨H + 1 + 1, 0, none⟩ (.int .u64 v1)).setCell ⟨H + 1 + 1 + 1, 0, none⟩ (.int .u64 v2)).setCell ⟨H + 1 + 1 + 1 + 1, 0, none⟩ (.int .i64 1)) := by
  subst e1 e2
  refine ⟨(((KeepsOthers.setCell _ _ _).trans (KeepsOthers.setCell _ _ _)).trans (KeepsOthers.setCell _ _ _)).from _, ?_, .inr ⟨rfl, m', sg', 0, ?_, ?_, ?_, ?_, ?_, by omega, hg⟩⟩
  · exact ((h.bl.setCell (p := ⟨H + 1 + 1, 0, none⟩) (by dsimp only; omega) _).setCell (p := ⟨H + 1 + 1 + 1, 0, none⟩) (by dsimp only; omega) _).setCell (p := ⟨H + 1 + 1 + 1 + 1, 0, none⟩) (by dsimp only; omega) _
  · exact ((h.bm.set _).other (by omega) _).other (by omega) _
  · exact ((h.bs.other (by omega) _).set _).other (by omega) _
  · exact ((h.bz.other (by omega) _).other (by omega) _).set _
  · exact ((h.b0.other (by omega) _).other (by omega) _).other (by omega) _
  · exact ((h.b1.other (by omega) _).other (by omega) _).other (by omega) _
/-- The first byte, and more to come. -/
theorem closeB (h : Mids s a H w pre W m sg) (m' sg' : Nat) {v1 v2 : Int} (e1 : v1 = m') (e2 : v2 = sg') (hm : m' < 64) {Ba Bt : Nat} (ha : Ba = H + 5 + 1) (hb : Bt = H + 5) (hg : Begs s a q → Mid s a q m' sg') :
    KeepsFrom B W ((W.setCell ⟨H + 1 + 1, 0, none⟩ (.int .u64 v1)).setCell ⟨H + 1 + 1 + 1, 0, none⟩ (.int .u64 v2)) ∧ Keep2 Ba Bt W ((W.setCell ⟨H + 1 + 1, 0, none⟩ (.int .u64 v1)).setCell ⟨H + 1 + 1 + 1, 0, none⟩ (.int .u64 v2)) ∧
    ∃ m sg, Mids s a H w q ((W.setCell ⟨H + 1 + 1, 0, none⟩ (.int .u64 v1)).setCell ⟨H + 1 + 1 + 1, 0, none⟩ (.int .u64 v2)) m sg := by
  subst e1 e2 ha hb
  refine ⟨((KeepsOthers.setCell _ _ _).trans (KeepsOthers.setCell _ _ _)).from _, keep2_t (set_keep2 (by omega) (by omega) _ _) (set_keep2 (by omega) (by omega) _ _), m', sg', ?_, ?_, ?_, ?_, ?_, by omega, by omega, by omega, ?_, hg⟩
  · exact (h.bm.set _).other (by omega) _
  · exact (h.bs.other (by omega) _).set _
  · exact (h.bz.other (by omega) _).other (by omega) _
  · exact (h.b0.other (by omega) _).other (by omega) _
  · exact (h.b1.other (by omega) _).other (by omega) _
  · exact (h.bl.setCell (p := ⟨H + 1 + 1, 0, none⟩) (by dsimp only; omega) _).setCell (p := ⟨H + 1 + 1 + 1, 0, none⟩) (by dsimp only; omega) _
/-- Another byte, and more to come. -/
theorem closeC (h : Mids s a H w pre W m sg) {v : Int} (h0 : 0 ≤ v) (h1 : v < 18446744073709551616) {Ba Bt : Nat} (ha : Ba = H + 5 + 1) (hb : Bt = H + 5) (hg : Begs s a q → Mid s a q v sg) :
    KeepsFrom B W (W.setCell ⟨H + 1 + 1, 0, none⟩ (.int .u64 v)).drew ∧ Keep2 Ba Bt W (W.setCell ⟨H + 1 + 1, 0, none⟩ (.int .u64 v)).drew ∧
    ∃ m sg, Mids s a H w q (W.setCell ⟨H + 1 + 1, 0, none⟩ (.int .u64 v)).drew m sg := by
  subst ha hb
  refine ⟨((KeepsOthers.setCell _ _ _).trans (KeepsOthers.drew _)).from _, set_keep2 (by omega) (by omega) W _, v, sg, ?_, ?_, ?_, ?_, ?_, h0, h1, h.s0, ?_, hg⟩
  · exact h.bm.set _
  · exact h.bs.other (by omega) _
  · exact h.bz.other (by omega) _
  · exact h.b0.other (by omega) _
  · exact h.b1.other (by omega) _
  · exact (h.bl.setCell (p := ⟨H + 1 + 1, 0, none⟩) (by dsimp only; omega) _).drew
/-- Another byte is the last one. -/
theorem closeD (h : Mids s a H w pre W m sg) {v : Int} {k : Nat} (hk : k < 1125899906842624) (h0 : 0 ≤ v) (hsg : 0 ≤ sg) (hg : Begs s a q → rdGo 0 (0, 0) (s.drop a) = .ok (v.toNat, sg.toNat, k + 1)) :
    KeepsFrom B W ((W.setCell ⟨H + 1 + 1, 0, none⟩ (.int .u64 v)).setCell ⟨H + 1 + 1 + 1 + 1, 0, none⟩ (.int .i64 ((k : Int) + 1))).drew ∧
    Outs s a H w a1 (.exit 0) q ((W.setCell ⟨H + 1 + 1, 0, none⟩ (.int .u64 v)).setCell ⟨H + 1 + 1 + 1 + 1, 0, none⟩ (.int .i64 ((k : Int) + 1))).drew := by
  obtain ⟨v, rfl⟩ := Int.eq_ofNat_of_zero_le h0
  obtain ⟨sg, rfl⟩ := Int.eq_ofNat_of_zero_le hsg
  refine ⟨(((KeepsOthers.setCell _ _ _).trans (KeepsOthers.setCell _ _ _)).trans (KeepsOthers.drew _)).from _, ?_, .inr ⟨rfl, v, sg, k, ?_, ?_, ?_, ?_, ?_, hk, hg⟩⟩
  · exact ((h.bl.setCell (p := ⟨H + 1 + 1, 0, none⟩) (by dsimp only; omega) _).setCell (p := ⟨H + 1 + 1 + 1 + 1, 0, none⟩) (by dsimp only; omega) _).drew
  · exact (h.bm.set _).other (by omega) _
  · exact (h.bs.other (by omega) _).other (by omega) _
  · exact (h.bz.other (by omega) _).set _
  · exact (h.b0.other (by omega) _).other (by omega) _
  · exact (h.b1.other (by omega) _).other (by omega) _
/-- A byte that is none. -/
theorem closeE (h : Mids s a H w pre W m sg) (hg : Begs s a q → rdGo 0 (0, 0) (s.drop a) = .error true) {W' : World} (hW : W' = ((W.setCell ⟨H, 0, none⟩ (.int .i64 0)).setCell ⟨H + 1, 0, none⟩ (.iface 184 (.pointer (some a1)))).drew) :
    KeepsFrom B W W' ∧ Outs s a H w a1 .ret q W' := by
  subst hW
  refine ⟨(((KeepsOthers.setCell _ _ _).trans (KeepsOthers.setCell _ _ _)).trans (KeepsOthers.drew _)).from _, ?_, .inl ⟨rfl, ?_, ?_, hg⟩⟩
  · exact ((h.bl.setCell (p := ⟨H, 0, none⟩) (Nat.le_refl _) _).setCell (p := ⟨H + 1, 0, none⟩) (by dsimp only; omega) _).drew
  · exact (h.b0.set _).other (by omega) _
  · exact (h.b1.other (by omega) _).set _
end

/-- 'group << (7*k - 1)'. -/
theorem shl_any (P : Program) (y : UInt8) (k : Nat) (hk : k < 1125899906842624) (hk0 : ¬ k = 0) : ∃ G : Int, 0 ≤ G ∧ G < 18446744073709551616 ∧ Hid (G = IntKind.u64.wrap ((y.toNat : Int) % 128 * 2 ^ min (7 * k - 1) 64)) ∧
    ∀ W, (Op.shift .shl .u64 ((y.toNat : Int) % 128) .i64 (IntKind.i64.wrap (IntKind.i64.wrap (7 * (k : Int)) - 1))).run P W = .ok (.int .u64 G) W := by
  refine ⟨IntKind.u64.wrap ((y.toNat : Int) % 128 * 2 ^ min (7 * k - 1) 64), ?_, ?_, rfl, fun W => ?_⟩
  · simp [IntKind.wrap_u64]; omega
  · simp [IntKind.wrap_u64]; omega
  · rw [IntWalk.i64_in (7 * (k : Int)) (by omega), IntWalk.i64_in _ (by omega)]
    have h1 : ¬ (7 * (k : Int) - 1 < 0) := by omega
    have h2 : (7 * (k : Int) - 1).toNat = 7 * k - 1 := by omega
    simp only [Op.shift, h1, if_false, h2, IntKind.bits]
    rfl

theorem keepObj {W W' : World} {D : Nat} {o : Obj} (h : KeepsOthers W W') (hK : W.heap[D]? = some o) (ho : o.isCells = false) : W'.heap[D]? = some o := h.same D o hK ho
theorem rd_err {s : List UInt8} {a : Nat} (hin : a < s.length) {e : Bool} (h : rdGo 0 (0, 0) (s.drop a) = .error e) : rd s a = .error e := by
  simp only [rd, Int.toNat_natCast, h]
  rw [if_pos (by omega)]
theorem rd_ok {s : List UInt8} {a m sg z : Nat} (hin : a < s.length) (h : rdGo 0 (0, 0) (s.drop a) = .ok (m, sg, z)) : rd s a = .ok (if sg = 1 then -1 - (m : Int) else m, z) := by
  simp only [rd, Int.toNat_natCast, h]
  rw [if_pos (by omega)]
/-- The reader's place goes on; the two results are stored. -/
theorem closeOk {s : List UInt8} {a b D : Nat} {w W : World} {v : Int} {x : Int} (hbl : Below w.heap.size w W) (hb : W.heap[b]? = some (.cells #[.string (str s), .int .i64 a] 110 (0, 0))) (hbw : b < w.heap.size)
    (hK : W.heap[D]? = some (.deferred (some []))) (hD : w.heap.size + 7 ≤ D) (bx0 : Boxed W w.heap.size 3 (.int .i64 0)) (bx1 : Boxed W (w.heap.size + 1) 112 .nilIface) {W' : World}
    (hW : W' = (((W.setCell ⟨b, 1, none⟩ (.int .i64 v)).setCell ⟨w.heap.size, 0, none⟩ (.int .i64 x)).setCell ⟨w.heap.size + 1, 0, none⟩ .nilIface).drew) :
    W'.heap[D]? = some (.deferred (some [])) ∧ (W'.putObj D (.deferred none)).cell? ⟨w.heap.size, 0, none⟩ = some (.int .i64 x) ∧ (W'.putObj D (.deferred none)).cell? ⟨w.heap.size + 1, 0, none⟩ = some .nilIface ∧
    w.grownBy (W'.putObj D (.deferred none)) (some b) ∧ (W'.putObj D (.deferred none)).heap[b]? = some (.cells #[.string (str s), .int .i64 v] 110 (0, 0)) := by
  subst hW
  have hK2 := keepObj ((((KeepsOthers.setCell W ⟨b, 1, none⟩ (.int .i64 v)).trans (KeepsOthers.setCell _ ⟨w.heap.size, 0, none⟩ (.int .i64 x))).trans (KeepsOthers.setCell _ ⟨w.heap.size + 1, 0, none⟩ .nilIface)).trans (KeepsOthers.drew _)) hK rfl
  have k0 : Boxed (W.setCell ⟨b, 1, none⟩ (.int .i64 v)) w.heap.size 3 (.int .i64 0) := (Below.heap_setCell _ _ _ _ (by dsimp only; omega)).trans bx0
  have k1 : Boxed (W.setCell ⟨b, 1, none⟩ (.int .i64 v)) (w.heap.size + 1) 112 .nilIface := (Below.heap_setCell _ _ _ _ (by dsimp only; omega)).trans bx1
  have q0 : Boxed (((W.setCell ⟨b, 1, none⟩ (.int .i64 v)).setCell ⟨w.heap.size, 0, none⟩ (.int .i64 x)).setCell ⟨w.heap.size + 1, 0, none⟩ .nilIface).drew w.heap.size 3 (.int .i64 x) := (k0.set _).other (by omega) _
  have q1 : Boxed (((W.setCell ⟨b, 1, none⟩ (.int .i64 v)).setCell ⟨w.heap.size, 0, none⟩ (.int .i64 x)).setCell ⟨w.heap.size + 1, 0, none⟩ .nilIface).drew (w.heap.size + 1) 112 .nilIface := (k1.other (by omega) _).set _
  have hbb : (((W.setCell ⟨b, 1, none⟩ (.int .i64 v)).setCell ⟨w.heap.size, 0, none⟩ (.int .i64 x)).setCell ⟨w.heap.size + 1, 0, none⟩ .nilIface).heap[b]? = some (.cells #[.string (str s), .int .i64 v] 110 (0, 0)) := by
    rw [Below.heap_setCell _ _ _ _ (by dsimp only; omega), Below.heap_setCell _ _ _ _ (by dsimp only; omega)]
    simp [World.setCell, Array.getElem?_modify, hb]
  refine ⟨hK2, ?_, ?_, ?_, ?_⟩
  · exact (boxKeep q0 (grownBy_putObj' _ D (.deferred none)) (fun r e => by cases e; exact ⟨_, hK2, rfl⟩)).cell
  · exact (boxKeep q1 (grownBy_putObj' _ D (.deferred none)) (fun r e => by cases e; exact ⟨_, hK2, rfl⟩)).cell
  · refine ⟨hbl.os, hbl.tape, hbl.output, ?_, fun k hk hne => ?_⟩
    · have := hbl.size
      have := (grownBy_putObj' (((W.setCell ⟨b, 1, none⟩ (.int .i64 v)).setCell ⟨w.heap.size, 0, none⟩ (.int .i64 x)).setCell ⟨w.heap.size + 1, 0, none⟩ .nilIface).drew D (.deferred none)).size
      simp [World.size_setCell, World.drew] at this ⊢
      omega
    · rw [World.putObj_heap_other (fun e => by omega)]
      show (((W.setCell ⟨b, 1, none⟩ (.int .i64 v)).setCell ⟨w.heap.size, 0, none⟩ (.int .i64 x)).setCell ⟨w.heap.size + 1, 0, none⟩ .nilIface).heap[k]? = _
      have hkb : k ≠ b := fun e => hne (by rw [e])
      rw [Below.heap_setCell _ _ _ _ (by dsimp only; omega), Below.heap_setCell _ _ _ _ (by dsimp only; omega), Below.heap_setCell _ _ _ _ (by dsimp only; omega), hbl.block k hk]
  · rw [World.putObj_heap_other (fun e => by omega)]
    exact hbb
theorem begs_all (s : List UInt8) (a : Nat) : Begs s a (pairs s a) := List.prefix_refl _

set_option maxRecDepth 100000 in
set_option maxHeartbeats 4000000 in
theorem number_go (s : List UInt8) (a : Nat) (b : Nat) (a0 a1 : Addr) (w : World) (hs : s.length < 1125899906842624) (hin : a < s.length)
    (hG : Glob w a0 a1) (hb : w.heap[b]? = some (.cells #[.string (str s), .int .i64 a] 110 (0, 0))) :
    Calls Tryd.prog 65 #[.pointer (some ⟨b, 0, none⟩)] w (NumPost s a b a0 a1 w) := by
  have hmix : Tryd.prog.follows .mixedOrders = true := by kernel_rfl
  have hblt := heap_lt hb
  have c0 : w.cell? ⟨b, 0, none⟩ = some (.string (str s)) := blk_cells hb 0
  have c1 : w.cell? ⟨b, 0 + 1, none⟩ = some (.int .i64 a) := blk_cells hb 1
  have e0 := hG.e0
  have e1 := hG.e1
  have g0 := cell_lt e0
  have g1 := cell_lt e1
  dsimp only at g0 g1
  have hhas : ∀ W, Calls Tryd.prog 94 #[.string (str s), .int .i64 a, .int .i64 1] W fun e w' => e = .returned (.bool true) ∧ w' = W := fun W => by
    have := has_any s a 1 W (by omega) (by omega) (by omega)
    rwa [decide_eq_true (by omega)] at this
  have HH := Lib.hid hhas
  have HG := Lib.hid hG
  have HB := Lib.hid hb
  clear hhas hG hb
  refine callsIn_wide.1 (callsIn_of_wp_marks (n := 9) Tryd.func65 rfl trivial (wpIn_wide.2 ?_) rfl); simp only [Tryd.ntmps65, List.size_toArray, List.length_cons, List.length_nil, Nat.reduceAdd, Nat.reduceSub, Array.replicate_succ, Array.replicate_zero, List.push_toArray, List.append_toArray, List.nil_append, List.cons_append]
  go_wp2_with fail
  go_step3
  go_wp2_with fail
  refine wp_region_tail 9 hmix (by kernel_rfl) ?_; simp only [List.take_succ_cons, List.take_zero, List.drop_succ_cons, List.drop_zero]
  iterate 8 still_step
  still_call (HH.out _)
  refine wpStill_nil ?_
  go_wp2_with fail
  go_step3
  go_wp2_with fail
  obtain ⟨B0, B1, B2, B3, B4, hsz, hBl⟩ := boxes5 w
  obtain ⟨W0, hW0⟩ : ∃ W0, (((((w.alloc (.cells #[.int .i64 0] 3)).alloc (.cells #[.nilIface] 112)).alloc (.cells #[.int .u64 0] 142)).alloc (.cells #[.int .u64 0] 142)).alloc (.cells #[.int .i64 0] 3)) = W0 := ⟨_, rfl⟩
  rw [hW0] at B0 B1 B2 B3 B4 hsz hBl ⊢
  clear hW0
  have d0 := (hBl.cell (p := ⟨b, 0, none⟩) hblt).trans c0
  have d1 := (hBl.cell (p := ⟨b, 0 + 1, none⟩) hblt).trans c1
  have HS := Lib.hid hsz
  clear hsz
  refine wp_region_tail 8 hmix (by kernel_rfl) ?_; simp only [List.take_succ_cons, List.take_zero, List.drop_succ_cons, List.drop_zero]
  iterate 8 still_step
  refine wpStill_nil ?_
  go_wp2_with fail
  refine (from_any _ _ _).mono ?_
  rintro e w' ⟨rfl, rfl⟩
  go_wp2_with fail
  have BT0 := (Boxed.new W0 108 (.string (str s))).alloc (.cells #[.int .i64 a] 3)
  have BA0 := Boxed.new (W0.alloc (.cells #[.string (str s)] 108)) 3 (.int .i64 a)
  rw [World.size_alloc] at BA0
  obtain ⟨W1, hW1⟩ : ∃ W1, ((W0.alloc (.cells #[.string (str s)] 108)).alloc (.cells #[.int .i64 a] 3)).drew.drew = W1 := ⟨_, rfl⟩
  have BT : Boxed W1 W0.heap.size 108 (.string (str s)) := by rw [← hW1]; exact BT0
  have BA : Boxed W1 (W0.heap.size + 1) 3 (.int .i64 a) := by rw [← hW1]; exact BA0
  have b0 : Boxed W1 w.heap.size 3 (.int .i64 0) := by rw [← hW1]; exact (B0.alloc _).alloc _
  have b1 : Boxed W1 (w.heap.size + 1) 112 .nilIface := by rw [← hW1]; exact (B1.alloc _).alloc _
  have b2 : Boxed W1 (w.heap.size + 1 + 1) 142 (.int .u64 0) := by rw [← hW1]; exact (B2.alloc _).alloc _
  have b3 : Boxed W1 (w.heap.size + 1 + 1 + 1) 142 (.int .u64 0) := by rw [← hW1]; exact (B3.alloc _).alloc _
  have b4 : Boxed W1 (w.heap.size + 1 + 1 + 1 + 1) 3 (.int .i64 0) := by rw [← hW1]; exact (B4.alloc _).alloc _
  have hBl1 : Below w.heap.size w W1 := by rw [← hW1]; exact ((((hBl).alloc hBl.size _).alloc (by have := hBl.size; simp; omega) _).drew).drew
  have hs1 : W1.heap.size = w.heap.size + 7 := by rw [← hW1]; simp [World.drew, HS.out]
  rw [hW1]
  have H0 := HS.out
  clear BT0 BA0 hW1 B0 B1 B2 B3 B4 hBl d0 d1
  refine (wpIn_wide (n := 9)).1 (wpIn_rangeFunc_ownG rfl (by omega) (gf := 111) (lb := #[.pointer (some ⟨W0.heap.size + 1, 0, none⟩), .pointer (some ⟨W0.heap.size, 0, none⟩)]) rfl trivial (enters_of Tryd.func111 (by kernel_rfl) rfl)
    (from_stops 8 (W0.heap.size + 1) W0.heap.size s a (by omega) hs W1 BA.cell BT.cell) keep2_t (keep2_b (by omega) (by omega)) (Below.refl _ _) (fun _ => rfl)
    (fun pre W => ∃ m sg, Mids s a w.heap.size w pre W m sg)
    (fun c pre W => Outs s a w.heap.size w a1 c pre W) ?hI ?hIx ⟨0, 0, b2, b3, b4, b0, b1, by omega, by omega, by omega, hBl1, fun _ => ⟨rfl, rfl, rfl, by decide, by simp⟩⟩ ?a1 ?assign ?body ?done ?stop)
  case hI =>
    rintro pre X Y row ⟨m, sg, h⟩ hg hr
    have hr' := fun r e => (hr r e).2
    exact ⟨m, sg, boxKeep h.bm hg hr', boxKeep h.bs hg hr', boxKeep h.bz hg hr', boxKeep h.b0 hg hr', boxKeep h.b1 hg hr', h.m0, h.m1, h.s0, h.bl.grown hg h.bl.size (fun k e => by have := (hr k e).1; omega), h.good⟩
  case hIx =>
    rintro c pre X Y row ⟨hbl, h⟩ hg hr
    have hr' := fun r e => (hr r e).2
    refine ⟨hbl.grown hg hbl.size (fun k e => by have := (hr k e).1; omega), ?_⟩
    rcases h with ⟨hc, h0, h1, hgd⟩ | ⟨hc, m, sg, z, h2, h3, h4, h0, h1, hz, hgd⟩
    · exact .inl ⟨hc, boxKeep h0 hg hr', boxKeep h1 hg hr', hgd⟩
    · exact .inr ⟨hc, m, sg, z, boxKeep h2 hg hr', boxKeep h3 hg hr', boxKeep h4 hg hr', boxKeep h0 hg hr', boxKeep h1 hg hr', hz, hgd⟩
  case assign =>
    intro l x W K hK
    gi_wp2
    exact hK
  case body =>
    rintro l pre ⟨⟨k, hk⟩, y⟩ W ⟨m, sg, h⟩ hlt
    dsimp only
    have hy : y.toNat < 256 := y.toNat_lt
    have hm0 := h.m0
    have hm1 := h.m1
    have cm := h.bm.cell
    have fm := h.bm.frozen
    have cs := h.bs.cell
    have fs := h.bs.frozen
    have cz := h.bz.cell
    have fz := h.bz.frozen
    have cr := h.b0.cell
    have fr := h.b0.frozen
    have ce := h.b1.cell
    have fe := h.b1.frozen
    have hMi := Lib.hid h
    clear h H0 BT BA b0 b1 b2 b3 b4 hBl1 hlt c0 c1 e0
    have hand : bits .and .u8 (y.toNat : Int) 127 = ((y.toNat % 128 : Nat) : Int) := by
      have := (by decide +kernel : ∀ z : Fin 256, bits .and .u8 ((z.val : Nat) : Int) 127 = ((z.val % 128 : Nat) : Int)) ⟨y.toNat, hy⟩
      exact this
    obtain ⟨X, hX⟩ : ∃ X : Mor.Ix × UInt8, X = (⟨k, hk⟩, y) := ⟨_, rfl⟩
    have hXk : X.1.val = k := by rw [hX]
    have hXy : X.2 = y := by rw [hX]
    rw [← hX]
    have HX1 := Lib.hid hXk
    have HX2 := Lib.hid hXy
    clear hX hXk hXy
    by_cases hk0 : k = 0
    · subst hk0
      by_cases hlo : y.toNat < 128
      · gi_wp2_with fail
        refine closeA hMi.out (y.toNat % 128 / 2) (y.toNat % 128 % 2) (by omega) (by omega) (fun hg => ?_)
        rw [Mid.ok hs hMi.out.good (by rw [HX1.out]; simp) (by rw [HX2.out]; exact hlo) hg, HX1.out]
        simp [stepM, HX1.out, HX2.out]
      · gi_wp2_with fail
        refine closeB hMi.out (y.toNat % 128 / 2) (y.toNat % 128 % 2) (by omega) (by omega) (by omega) (Ba := W0.heap.size + 1) (Bt := W0.heap.size) (by have := HS.out; omega) HS.out (fun hg => ?_)
        have := Mid.cont hs hMi.out.good (by rw [HX1.out]; simp) (by rw [HX2.out]; omega) hg
        simpa [stepM, HX1.out, HX2.out] using this
    · have hk1 : ((k : Int) == 0) = false := by simp; omega
      by_cases hbad : y.toNat = 0 ∨ k = 9 ∧ 1 < y.toNat
      · have HE : Begs s a (pre ++ [X]) → rdGo 0 (0, 0) (s.drop a) = .error true := fun hg => Mid.err hs hMi.out.good (by rw [HX1.out]; exact hk0) (by rw [HX1.out, HX2.out]; exact hbad) hg
        have HE' := Lib.hid HE
        have ge := (hMi.out.bl.cell (p := ⟨1, 0, none⟩) g1).trans e1
        clear HE
        by_cases hy0 : y.toNat = 0
        · have hy1 : ((y.toNat : Int) == 0) = true := by simp; omega
          have HY0 := Lib.hid hy0
          clear hy0 hbad
          gi_wp2_with fail
          gi_region_with_o (fail)
          all_goals gi_wp2_with fail
          all_goals exact closeE hMi.out HE'.out rfl
        · have hy1 : ((y.toNat : Int) == 0) = false := by simp; omega
          have hk9' : ((k : Int) == 9) = true := by simp; omega
          have hgt : 1 < (y.toNat : Int) := by omega
          have HB := Lib.hid hbad
          clear hbad
          gi_wp2_with fail
          gi_region_with_o (fail)
          all_goals gi_wp2_with fail
          all_goals exact closeE hMi.out HE'.out rfl
      · have hy0 : ((y.toNat : Int) == 0) = false := by simp; omega
        have hstep : Hid (∀ G : Int, G = IntKind.u64.wrap ((y.toNat : Int) % 128 * 2 ^ min (7 * k - 1) 64) → Begs s a (pre ++ [X]) → bits .or .u64 m G = ((stepM (stM pre) X).1 : Nat) ∧ sg = ((stepM (stM pre) X).2 : Nat)) :=
          fun G hG hg => or_step hs hMi.out.good (by rw [HX1.out]; exact hk0) (by rw [HX1.out, HX2.out]; exact hbad) (by rw [HX1.out, HX2.out]; exact hG) hg
        have hnb : Hid (¬ (X.1.val ≠ 0 ∧ (X.2.toNat = 0 ∨ X.1.val = 9 ∧ 1 < X.2.toNat))) := by
          show ¬ _
          rw [HX1.out, HX2.out]
          exact fun hc => hbad hc.2
        obtain ⟨G, hG0, hG1, HGe, hsh⟩ := shl_any Tryd.prog y k hk hk0
        have HSH := Lib.hid hsh
        clear hsh
        obtain ⟨M, hM⟩ : ∃ M, bits .or .u64 m G = M := ⟨_, rfl⟩
        have hMb : 0 ≤ M ∧ M < 18446744073709551616 := by
          obtain ⟨m, rfl⟩ := Int.eq_ofNat_of_zero_le hm0
          obtain ⟨G, rfl⟩ := Int.eq_ofNat_of_zero_le hG0
          have := Nat.or_lt_two_pow (n := 64) (x := m) (y := G) (by omega) (by omega)
          rw [← hM, u64_or_nat _ _ (by omega) (by omega)]
          omega
        obtain ⟨hM0, hM1⟩ := hMb
        have HM := Lib.hid hM
        clear hM
        by_cases hk9 : k = 9
        · have hk9' : ((k : Int) == 9) = true := by simp; omega
          have hgt : ¬ (1 < (y.toNat : Int)) := by omega
          have hHk := Lib.hid hk9
          clear hk9
          gi_wp2_with fail
          have hsh := HSH.out
          have hM := HM.out
          refine wpIn_region_still_tail (open_round l) 7 hmix (by kernel_rfl) ?_; simp only [List.take_succ_cons, List.take_zero, List.drop_succ_cons, List.drop_zero]
          iterate 7 still_step
          refine wpStill_nil ?_
          clear hsh hM
          gi_wp2_with fail
          refine closeD hMi.out hk hM0 hMi.out.s0 (fun hg => ?_)
          obtain ⟨q1, q2⟩ := hstep.out G HGe.out hg
          rw [HM.out] at q1
          have hlo : y.toNat < 128 := by omega
          rw [q1, q2]
          simpa [HX1.out] using Mid.ok hs hMi.out.good hnb.out (by rw [HX2.out]; exact hlo) hg
        · have hk9' : ((k : Int) == 9) = false := by simp; omega
          gi_wp2_with fail
          have hsh := HSH.out
          have hM := HM.out
          refine wpIn_region_still_tail (open_round l) 7 hmix (by kernel_rfl) ?_; simp only [List.take_succ_cons, List.take_zero, List.drop_succ_cons, List.drop_zero]
          iterate 7 still_step
          refine wpStill_nil ?_
          clear hsh hM
          gi_wp2_with fail
          · refine closeD hMi.out hk hM0 hMi.out.s0 (fun hg => ?_)
            obtain ⟨q1, q2⟩ := hstep.out G HGe.out hg
            rw [HM.out] at q1
            have hlo : y.toNat < 128 := by omega
            rw [q1, q2]
            simpa [HX1.out] using Mid.ok hs hMi.out.good hnb.out (by rw [HX2.out]; exact hlo) hg
          · refine closeC hMi.out hM0 hM1 (Ba := W0.heap.size + 1) (Bt := W0.heap.size) (by have := HS.out; omega) HS.out (fun hg => ?_)
            obtain ⟨q1, q2⟩ := hstep.out G HGe.out hg
            rw [HM.out] at q1
            have hlo : 128 ≤ y.toNat := by omega
            rw [q1, q2]
            exact Mid.cont hs hMi.out.good hnb.out (by rw [HX2.out]; exact hlo) hg
  case done =>
    rintro D ys W hD rfl ⟨m, sg, h⟩ hK
    have cz := h.bz.cell
    have cr := h.b0.cell
    have fr := h.b0.frozen
    have ce := h.b1.cell
    have fe := h.b1.frozen
    have ge := (h.bl.cell (p := ⟨0, 0, none⟩) g0).trans e0
    have hMi := Lib.hid h
    have HK := Lib.hid hK
    clear h H0 BT BA b0 b1 b2 b3 b4 hBl1 c0 c1 e0 e1 hK
    go_wp2_with fail
    go_region
    all_goals go_wp2_with fail
    all_goals
      rw [Exit.noGoto_ret]
      have bx0 : Boxed ((W.setCell ⟨w.heap.size, 0, none⟩ (.int .i64 0)).setCell ⟨w.heap.size + 1, 0, none⟩ (.iface 184 (.pointer (some a0)))).drew w.heap.size 3 (.int .i64 0) := (hMi.out.b0.set (.int .i64 0)).other (show w.heap.size ≠ w.heap.size + 1 by omega) (.iface 184 (.pointer (some a0)))
      have bx1 : Boxed ((W.setCell ⟨w.heap.size, 0, none⟩ (.int .i64 0)).setCell ⟨w.heap.size + 1, 0, none⟩ (.iface 184 (.pointer (some a0)))).drew (w.heap.size + 1) 112 (.iface 184 (.pointer (some a0))) := (hMi.out.b1.other (show w.heap.size + 1 ≠ w.heap.size by omega) (.int .i64 0)).set (.iface 184 (.pointer (some a0)))
      have hK2 := keepObj (((KeepsOthers.setCell W ⟨w.heap.size, 0, none⟩ (.int .i64 0)).trans (KeepsOthers.setCell _ ⟨w.heap.size + 1, 0, none⟩ (.iface 184 (.pointer (some a0))))).trans (KeepsOthers.drew _)) HK.out rfl
      refine ⟨by simp, .inl ⟨_, _, rfl, run_takeDeferred hK2, ?_⟩⟩
      have r0 := (boxKeep bx0 (grownBy_putObj' _ D (.deferred none)) (fun r e => by cases e; exact ⟨_, hK2, rfl⟩)).cell
      have r1 := (boxKeep bx1 (grownBy_putObj' _ D (.deferred none)) (fun r e => by cases e; exact ⟨_, hK2, rfl⟩)).cell
      refine ⟨.tuple #[.int .i64 0, .iface 184 (.pointer (some a0))], by simp [results, Tryd.results65, go_sem, r0, r1], ?_⟩
      have hgo := (hMi.out.good (begs_all s a)).go
      rw [pairs_length, show a + (s.length - a) = s.length by omega, List.drop_length] at hgo
      unfold NumPost
      rw [rd_err hin hgo]
      exact ⟨rfl, (((hMi.out.bl.setCell (p := ⟨w.heap.size, 0, none⟩) (Nat.le_refl _) _).setCell (p := ⟨w.heap.size + 1, 0, none⟩) (by dsimp only; omega) _).drew).trans (belowK_b (w := w) (Nat.le_refl _) _ D _ _ (by omega) hK2 rfl rfl)⟩
  case stop =>
    rintro D c pre W hD hSp ⟨hbl, hO⟩ hK
    have HK := Lib.hid hK
    have HL := Lib.hid hbl
    rcases hO with ⟨rfl, bx0, bx1, hgd⟩ | ⟨rfl, m, sg, z, bm, bs, bz, bx0, bx1, hz, hgd⟩
    · refine wpIn_wide.2 ?_
      have hgo := hgd hSp
      clear H0 BT BA b0 b1 b2 b3 b4 hBl1 c0 c1 e0 e1 hK hgd hbl
      go_wp2_with fail
      rw [Exit.noGoto_ret]
      have hK2 := HK.out
      refine ⟨by simp, .inl ⟨_, _, rfl, run_takeDeferred hK2, ?_⟩⟩
      have r0 := (boxKeep bx0 (grownBy_putObj' _ D (.deferred none)) (fun r e => by cases e; exact ⟨_, hK2, rfl⟩)).cell
      have r1 := (boxKeep bx1 (grownBy_putObj' _ D (.deferred none)) (fun r e => by cases e; exact ⟨_, hK2, rfl⟩)).cell
      refine ⟨.tuple #[.int .i64 0, .iface 184 (.pointer (some a1))], by simp [results, Tryd.results65, go_sem, r0, r1], ?_⟩
      unfold NumPost
      rw [rd_err hin hgo]
      exact ⟨rfl, HL.out.trans (belowK_b (w := w) (Nat.le_refl _) _ D _ _ (by omega) hK2 rfl rfl)⟩
    · have HR := Lib.hid (rd_ok hin (hgd hSp))
      have hb2 : W.heap[b]? = some (.cells #[.string (str s), .int .i64 a] 110 (0, 0)) := (hbl.block b hblt).trans HB.out
      have d0 : W.cell? ⟨b, 0, none⟩ = some (.string (str s)) := blk_cells hb2 0
      have d1 : W.cell? ⟨b, 0 + 1, none⟩ = some (.int .i64 a) := blk_cells hb2 1
      have d2 : W.frozen? ⟨b, 0 + 1, none⟩ = false := blk_frozen hb2 1
      have cm := bm.cell
      have cs := bs.cell
      have cz := bz.cell
      have cr := bx0.cell
      have fr := bx0.frozen
      have ce := bx1.cell
      have fe := bx1.frozen
      have hHB := Lib.hid hb2
      have hlz : (((z : Int) + 1) == 0) = false := by simp; omega
      obtain ⟨hm63, hsg1, hz0, hz10, hzl⟩ := rdGo_bound (s.drop a) 0 (0, 0) (by omega) (by decide) (.inl rfl) (hgd hSp)
      have hm63' : (m : Int) < 9223372036854775808 := by omega
      simp only [List.length_drop] at hzl
      clear H0 BT BA b0 b1 b2 b3 b4 hBl1 c0 c1 e0 e1 hK hgd hbl hb2
      refine wpIn_wide.2 ?_
      by_cases hsg : sg = 1
      all_goals
        first
          | have hsgB : ((sg : Int) == 1) = true := by simp; omega
          | have hsgB : ((sg : Int) == 1) = false := by simp; omega
        have HSG := Lib.hid hsg
        clear hsg
        go_wp2_with fail
        have hw1 : IntKind.i64.wrap ((a : Int) + ((z : Int) + 1)) = (a : Int) + ((z : Int) + 1) := IntWalk.i64_in _ (by omega)
        refine wp_region_tail 8 hmix (by kernel_rfl) ?_; simp only [List.take_succ_cons, List.take_zero, List.drop_succ_cons, List.drop_zero]
        iterate 8 still_step
        refine wpStill_nil ?_
        clear hw1
        go_wp2_with fail
        rw [Exit.noGoto_ret]
        obtain ⟨hK2, r0, r1, hgr, hbk⟩ := closeOk HL.out hHB.out hblt HK.out (by omega) bx0 bx1 rfl
        refine ⟨by simp, .inl ⟨_, _, rfl, run_takeDeferred hK2, ?_⟩⟩
        refine ⟨_, by simp [results, Tryd.results65, go_sem, r0, r1]; rfl, ?_⟩
        unfold NumPost
        rw [HR.out]
        first
          | (rw [if_pos HSG.out]; exact ⟨rfl, hgr, hbk⟩)
          | (rw [if_neg HSG.out]; exact ⟨rfl, hgr, hbk⟩)
end Go.Proofs.YtdlolkogifigpaaDoor
end

section
/- Layer 1 in plain words: what ReadNum, Text and ReadText answer. -/
namespace Go.Mor

/-- ReadNum: the number, the place behind it. -/
def readNum (s : List UInt8) (a : Int) : Option (Int × Int) :=
  match rd s a with
  | .ok (n, z) => some (n, a + z)
  | .error _ => none
/-- (*reader).words. -/
def rdW (s : List UInt8) (a : Int) : Except Bool (List UInt8 × Int) :=
  match rd s a with
  | .error e => .error e
  | .ok (n, z) => if n < 0 ∨ 10000 < n then .error true else if s.length - (a + z) < n then .error false else .ok ((s.drop (a + z).toNat).take n.toNat, a + z + n)
def readText (s : List UInt8) (a : Int) : Option (List UInt8 × Int) :=
  match rdW s a with
  | .ok (t, b) => some (t, b)
  | .error _ => none
def numRes (r : Option (Int × Int)) : Value := match r with | some (n, b) => .tuple #[.int .i64 n, .int .i64 b, .int .i64 0] | none => .tuple #[.int .i64 0, .int .i64 0, .int .i64 10]
def readRes (r : Option (List UInt8 × Int)) : Value := match r with | some (t, b) => .tuple #[.string (str t), .int .i64 b, .int .i64 0] | none => .tuple #[.string (str []), .int .i64 0, .int .i64 10]
def text (s : List UInt8) : List UInt8 := num s.length ++ s
def textRes (s : List UInt8) : Value := if s.length ≤ 10000 then .tuple #[.string (str (text s)), .int .i64 0] else .tuple #[.string (str []), .int .i64 10]
theorem rd_bound {s : List UInt8} {a : Int} {n : Int} {z : Nat} (h : rd s a = .ok (n, z)) : 0 ≤ a ∧ a + z ≤ s.length ∧ -9223372036854775808 ≤ n ∧ n ≤ 9223372036854775807 ∧ 0 < z ∧ z ≤ 10 := by
  unfold rd at h
  split at h
  · rename_i hin
    split at h
    · cases h
    · rename_i m sg z' he
      simp only [Except.ok.injEq, Prod.mk.injEq] at h
      obtain ⟨rfl, rfl⟩ := h
      have := rdGo_bound _ 0 (0, 0) (by omega) (by decide) (.inl rfl) he
      simp only [List.length_drop] at this
      refine ⟨by omega, by omega, ?_, ?_, by omega, by omega⟩ <;> split <;> omega
  · cases h
theorem readNum_bound {s : List UInt8} {a n b : Int} (h : readNum s a = some (n, b)) : 0 ≤ a ∧ a < b ∧ b ≤ s.length ∧ -9223372036854775808 ≤ n ∧ n ≤ 9223372036854775807 := by
  unfold readNum at h
  split at h
  · rename_i n' z he
    simp only [Option.some.injEq, Prod.mk.injEq] at h
    obtain ⟨rfl, rfl⟩ := h
    have := rd_bound he
    omega
  · cases h
theorem readText_bound {s t : List UInt8} {a b : Int} (h : readText s a = some (t, b)) : 0 ≤ a ∧ a < b ∧ b ≤ s.length ∧ t.length ≤ 10000 := by
  unfold readText at h
  split at h
  · rename_i t' b' he
    simp only [Option.some.injEq, Prod.mk.injEq] at h
    obtain ⟨rfl, rfl⟩ := h
    unfold rdW at he
    split at he
    · cases he
    · rename_i n z hr
      have := rd_bound hr
      split at he
      · cases he
      · split at he
        · cases he
        · simp only [Except.ok.injEq, Prod.mk.injEq] at he
          obtain ⟨rfl, rfl⟩ := he
          refine ⟨by omega, by omega, by omega, ?_⟩
          rw [List.length_take]
          omega
  · cases h
end Go.Mor
end

section
/- Layer 1: wire.ReadNum, wire.Text, wire.ReadText. -/
namespace Go.Proofs.YtdlolkogifigpaaDoor
open Go Go.RowKit Go.Mor Go.Shelf

theorem number_any (s : List UInt8) (a : Int) (b : Nat) (a0 a1 : Addr) (w : World) (hs : s.length < 1125899906842624) (ha0 : -9223372036854775808 ≤ a) (ha1 : a ≤ 9223372036854775807)
    (hG : Glob w a0 a1) (hb : w.heap[b]? = some (.cells #[.string (str s), .int .i64 a] 110 (0, 0))) :
    Calls Tryd.prog 65 #[.pointer (some ⟨b, 0, none⟩)] w (NumPost s a b a0 a1 w) := by
  by_cases hin : 0 ≤ a ∧ a < s.length
  · obtain ⟨a, rfl⟩ := Int.eq_ofNat_of_zero_le hin.1
    exact number_go s a b a0 a1 w hs (by omega) hG hb
  · refine (number_out s a b a0 a1 w hs ha0 ha1 hG hb hin).mono ?_
    rintro e w' ⟨rfl, hbl⟩
    unfold NumPost
    rw [rd_out hin]
    exact ⟨rfl, hbl⟩

theorem blk_new (w : World) (t : TypeId) (cs : Array Value) : (w.alloc (.cells cs t)).heap[w.heap.size]? = some (.cells cs t (0, 0)) := World.alloc_heap_new w _
theorem below_new {w w' : World} {o : Obj} (hg : (w.alloc o).grownBy w' (some w.heap.size)) : Below w.heap.size w w' :=
  ((Below.refl w.heap.size w).alloc (Nat.le_refl _) o).grown hg (by simp) (fun k e => by cases e; exact Nat.le_refl _)

set_option maxRecDepth 10000 in
theorem ReadNum_any (s : List UInt8) (a : Int) (a0 a1 : Addr) (w : World) (hs : s.length < 1125899906842624) (ha0 : -9223372036854775808 ≤ a) (ha1 : a ≤ 9223372036854775807) (hG : Glob w a0 a1) :
    Calls Tryd.prog 35 #[.string (str s), .int .i64 a] w fun e w' =>
      e = .returned (numRes (readNum s a)) ∧ Below w.heap.size w w' := by
  have hmix : Tryd.prog.follows .mixedOrders = true := by kernel_rfl
  have hB1 : Below w.heap.size w (w.alloc (.cells #[.string (str s), .int .i64 a] 110)) := (Below.refl _ _).alloc (Nat.le_refl _) _
  have hG1 := hG.ext hB1
  have HN := Lib.hid (number_any s a w.heap.size a0 a1 _ hs ha0 ha1 hG1 (blk_new w 110 #[.string (str s), .int .i64 a]))
  have HG := Lib.hid hG
  clear hG hG1
  go_enter Tryd.func35, Tryd.ntmps35
  go_wp2_with fail
  refine HN.out.mono ?_
  intro e w' hp
  unfold NumPost at hp
  cases hr : rd s a with
  | error t =>
    rw [hr] at hp
    have hrn : readNum s a = none := by simp [readNum, hr]
    have HRN := Lib.hid hrn
    clear hr hrn
    cases t
    · obtain ⟨rfl, hbl⟩ := hp
      have hbl' := hB1.trans (hbl.mono (by simp))
      have HW := Lib.hid (wrong_end w' a0 a1 (HG.out.ext hbl'))
      go_wp2_with fail
      refine HW.out.mono ?_
      rintro e w2 ⟨rfl, rfl⟩
      go_wp2_with fail
      go_ret3
      exact ⟨by rw [HRN.out]; rfl, hbl'⟩
    · obtain ⟨rfl, hbl⟩ := hp
      have hbl' := hB1.trans (hbl.mono (by simp))
      have HW := Lib.hid (wrong_form w' a0 a1 (HG.out.ext hbl'))
      go_wp2_with fail
      refine HW.out.mono ?_
      rintro e w2 ⟨rfl, rfl⟩
      go_wp2_with fail
      go_ret3
      exact ⟨by rw [HRN.out]; rfl, hbl'⟩
  | ok p =>
    obtain ⟨n, z⟩ := p
    rw [hr] at hp
    have hrn : readNum s a = some (n, a + z) := by simp [readNum, hr]
    have HRN := Lib.hid hrn
    clear hr hrn
    obtain ⟨rfl, hgr, hbk⟩ := hp
    have hbl' := below_new hgr
    have HW := Lib.hid (wrong_nil w' a0 a1 (HG.out.ext hbl'))
    have c1 : w'.cell? ⟨w.heap.size, 0 + 1, none⟩ = some (.int .i64 (a + z)) := blk_cells hbk 1
    go_wp2_with fail
    refine HW.out.mono ?_
    rintro e w2 ⟨rfl, rfl⟩
    go_wp2_with fail
    refine wp_region_tail 5 hmix (by kernel_rfl) ?_; simp only [List.take_succ_cons, List.take_zero, List.drop_succ_cons, List.drop_zero]
    iterate 5 still_step
    refine wpStill_nil ?_
    go_wp2_with fail
    go_ret3
    exact ⟨by rw [HRN.out]; rfl, hbl'.drew⟩

theorem Text_any (s : List UInt8) (w : World) (hs : s.length ≤ 9223372036854775807) :
    Calls Tryd.prog 76 #[.string (str s)] w fun e w' =>
      e = .returned (textRes s) ∧ Below w.heap.size w w' := by
  by_cases hl : s.length ≤ 10000
  · have hnl := num_length (s.length : Int)
    go_enter Tryd.func76, Tryd.ntmps76
    go_wp2_with fail
    refine (Num_any _ (by omega) (by omega) _).mono ?_
    rintro e w2 ⟨rfl, hb2⟩
    go_wp2_with fail
    go_ret2
    exact ⟨by rw [textRes, if_pos hl]; rfl, hb2⟩
  · go_enter Tryd.func76, Tryd.ntmps76
    go_wp2_with fail
    go_ret2
    exact ⟨by rw [textRes, if_neg hl]; rfl, Below.refl _ _⟩

/-- What (*reader).words leaves. -/
def WordsPost (s : List UInt8) (a : Int) (b : Nat) (a0 a1 : Addr) (w : World) (e : Ending) (w' : World) : Prop :=
  match rdW s a with
  | .ok (t, z) => e = .returned (.tuple #[.string (str t), .nilIface]) ∧ w.grownBy w' (some b) ∧ w'.heap[b]? = some (.cells #[.string (str s), .int .i64 z] 110 (0, 0))
  | .error false => e = .returned (.tuple #[.string (str []), .iface 184 (.pointer (some a0))]) ∧ w.grownBy w' (some b)
  | .error true => e = .returned (.tuple #[.string (str []), .iface 184 (.pointer (some a1))]) ∧ w.grownBy w' (some b)

theorem grown_of_below {w w' : World} {r : Option Nat} (h : Below w.heap.size w w') : w.grownBy w' r := ⟨h.os, h.tape, h.output, h.size, fun k hk _ => h.block k hk⟩
theorem grown_drew {w w' : World} {r : Option Nat} (h : w.grownBy w' r) : w.grownBy w'.drew r := ⟨h.os, h.tape, h.output, h.size, h.block⟩
theorem grown_trans {w w' w2 : World} {r : Option Nat} (h : w.grownBy w' r) (h2 : w'.grownBy w2 r) : w.grownBy w2 r :=
  ⟨h2.os.trans h.os, h2.tape.trans h.tape, h2.output.trans h.output, Nat.le_trans h.size h2.size, fun k hk hn => (h2.block k (Nat.lt_of_lt_of_le hk h.size) hn).trans (h.block k hk hn)⟩
set_option maxHeartbeats 1000000 in
set_option maxRecDepth 100000 in
theorem words_any (s : List UInt8) (a : Int) (b : Nat) (a0 a1 : Addr) (w : World) (hs : s.length < 1125899906842624) (ha0 : -9223372036854775808 ≤ a) (ha1 : a ≤ 9223372036854775807)
    (hG : Glob w a0 a1) (hb : w.heap[b]? = some (.cells #[.string (str s), .int .i64 a] 110 (0, 0))) (hbG : 0 ≠ b ∧ 1 ≠ b) :
    Calls Tryd.prog 102 #[.pointer (some ⟨b, 0, none⟩)] w (WordsPost s a b a0 a1 w) := by
  have hmix : Tryd.prog.follows .mixedOrders = true := by kernel_rfl
  have HN := Lib.hid (number_any s a b a0 a1 w hs ha0 ha1 hG hb)
  have HG := Lib.hid hG
  have HB := Lib.hid hb
  clear hG hb
  go_enter Tryd.func102, Tryd.ntmps102
  go_wp2_with fail
  refine HN.out.mono ?_
  intro e w' hp
  unfold NumPost at hp
  cases hr : rd s a with
  | error t =>
    rw [hr] at hp
    have hrn : rdW s a = .error t := by simp [rdW, hr]
    have HRN := Lib.hid hrn
    clear hr hrn
    cases t
    · obtain ⟨rfl, hbl⟩ := hp
      go_wp2_with fail
      go_ret2
      unfold WordsPost
      rw [HRN.out]
      exact ⟨rfl, grown_of_below hbl⟩
    · obtain ⟨rfl, hbl⟩ := hp
      go_wp2_with fail
      go_ret2
      unfold WordsPost
      rw [HRN.out]
      exact ⟨rfl, grown_of_below hbl⟩
  | ok p =>
    obtain ⟨n, z⟩ := p
    rw [hr] at hp
    have hbd := rd_bound hr
    have HR := Lib.hid hr
    clear hr
    obtain ⟨rfl, hgr, hbk⟩ := hp
    have e0 := (World.cell?_of_block (w := w) (a := ⟨0, 0, none⟩) (hgr.block 0 (cell_lt HG.out.e0) (by simpa using hbG.1))).trans HG.out.e0
    have e1 := (World.cell?_of_block (w := w) (a := ⟨1, 0, none⟩) (hgr.block 1 (cell_lt HG.out.e1) (by simpa using hbG.2))).trans HG.out.e1
    have d0 : w'.cell? ⟨b, 0, none⟩ = some (.string (str s)) := blk_cells hbk 0
    have d1 : w'.cell? ⟨b, 0 + 1, none⟩ = some (.int .i64 (a + z)) := blk_cells hbk 1
    have d2 : w'.frozen? ⟨b, 0 + 1, none⟩ = false := blk_frozen hbk 1
    have HBK := Lib.hid hbk
    clear hbk
    by_cases hbad : n < 0 ∨ 10000 < n
    · have HRN : Hid (rdW s a = .error true) := by show _ = _; unfold rdW; rw [HR.out]; exact if_pos hbad
      have HBD := Lib.hid hbad
      clear hbad
      by_cases hn0 : n < 0
      · go_wp2_with fail
        go_region
        go_wp2_with fail
        go_ret2
        unfold WordsPost
        rw [HRN.out]
        exact ⟨rfl, grown_drew hgr⟩
      · have hn1 : 10000 < n := by have := HBD.out; omega
        go_wp2_with fail
        go_region
        go_wp2_with fail
        go_ret2
        unfold WordsPost
        rw [HRN.out]
        exact ⟨rfl, grown_drew hgr⟩
    · have hn0 : 0 ≤ n := by omega
      have hn1 : n ≤ 10000 := by omega
      clear hbad
      by_cases hfit : (s.length : Int) - (a + z) < n
      · have HRN : Hid (rdW s a = .error false) := by
          show _ = _; unfold rdW; rw [HR.out]; dsimp only; rw [if_neg (by omega), if_pos hfit]
        have hhas : ∀ W, Calls Tryd.prog 94 #[.string (str s), .int .i64 (a + z), .int .i64 n] W fun e w' => e = .returned (.bool false) ∧ w' = W := fun W => by
          have := has_any s (a + z) n W (by omega) (by omega) (by omega)
          rwa [decide_eq_false (by omega)] at this
        have HH := Lib.hid hhas
        clear hhas
        go_wp2_with fail
        refine wp_region_tail 10 hmix (by kernel_rfl) ?_; simp only [List.take_succ_cons, List.take_zero, List.drop_succ_cons, List.drop_zero]
        iterate 9 still_step
        still_call (HH.out _)
        refine wpStill_nil ?_
        go_wp2_with fail
        go_region
        all_goals go_wp2_with fail
        all_goals go_ret2
        all_goals unfold WordsPost
        all_goals rw [HRN.out]
        all_goals exact ⟨rfl, grown_drew (grown_drew hgr)⟩
      · have HRN : Hid (rdW s a = .ok ((s.drop (a + z).toNat).take n.toNat, a + z + n)) := by
          show _ = _; unfold rdW; rw [HR.out]; dsimp only; rw [if_neg (by omega), if_neg hfit]
        have hhas : ∀ W, Calls Tryd.prog 94 #[.string (str s), .int .i64 (a + z), .int .i64 n] W fun e w' => e = .returned (.bool true) ∧ w' = W := fun W => by
          have := has_any s (a + z) n W (by omega) (by omega) (by omega)
          rwa [decide_eq_true (by omega)] at this
        have HH := Lib.hid hhas
        clear hhas
        go_wp2_with fail
        refine wp_region_tail 10 hmix (by kernel_rfl) ?_; simp only [List.take_succ_cons, List.take_zero, List.drop_succ_cons, List.drop_zero]
        iterate 9 still_step
        still_call (HH.out _)
        refine wpStill_nil ?_
        go_wp2_with fail
        have hb3 : (w'.setCell ⟨b, 1, none⟩ (.int .i64 (a + z + n))).heap[b]? = some (.cells #[.string (str s), .int .i64 (a + z + n)] 110 (0, 0)) := by
          have := HBK.out
          simp [World.setCell, Array.getElem?_modify, this]
        have hg3 : w.grownBy (w'.setCell ⟨b, 1, none⟩ (.int .i64 (a + z + n))) (some b) := grown_trans hgr ⟨rfl, rfl, rfl, by simp, fun k _ hk => Below.heap_setCell _ _ _ k (fun e => hk (by rw [e]))⟩
        obtain ⟨W3, hW3⟩ : ∃ W3, (w'.setCell ⟨b, 1, none⟩ (.int .i64 (a + z + n))) = W3 := ⟨_, rfl⟩
        rw [hW3] at hb3 hg3 ⊢
        clear hW3 d0 d1 d2 hgr e0 e1
        have d0 : W3.cell? ⟨b, 0, none⟩ = some (.string (str s)) := blk_cells hb3 0
        have d1 : W3.cell? ⟨b, 0 + 1, none⟩ = some (.int .i64 (a + z + n)) := blk_cells hb3 1
        have HB3 := Lib.hid hb3
        clear hb3
        have hw1 : IntKind.i64.wrap (a + z) = a + z := IntWalk.i64_in _ (by omega)
        have hw5 : (0 : Int) ≤ a + z + n := by omega
        have hw2 : (0 : Int) ≤ a + z := by omega
        have hw3 : a + z ≤ a + z + n := by omega
        have hw4 : a + z + n ≤ s.length := by omega
        refine wp_region_tail 16 hmix (by kernel_rfl) ?_; simp only [List.take_succ_cons, List.take_zero, List.drop_succ_cons, List.drop_zero]
        iterate 16 still_step
        refine wpStill_nil ?_
        clear hw1
        go_wp2_with fail
        go_ret2
        unfold WordsPost
        rw [HRN.out]
        refine ⟨?_, grown_drew (grown_drew hg3), HB3.out⟩
        have e1 : (a + z + n).toNat - (a + z).toNat = n.toNat := by omega
        simp [e1]

theorem glob_lt {w : World} {a0 a1 : Addr} (hG : Glob w a0 a1) : 0 ≠ w.heap.size ∧ 1 ≠ w.heap.size := by
  have h0 := cell_lt hG.e0
  have h1 := cell_lt hG.e1
  dsimp only at h0 h1
  omega

set_option maxRecDepth 10000 in
theorem ReadText_any (s : List UInt8) (a : Int) (a0 a1 : Addr) (w : World) (hs : s.length < 1125899906842624) (ha0 : -9223372036854775808 ≤ a) (ha1 : a ≤ 9223372036854775807) (hG : Glob w a0 a1) :
    Calls Tryd.prog 78 #[.string (str s), .int .i64 a] w fun e w' => e = .returned (readRes (readText s a)) ∧ Below w.heap.size w w' := by
  have hmix : Tryd.prog.follows .mixedOrders = true := by kernel_rfl
  have hB1 : Below w.heap.size w (w.alloc (.cells #[.string (str s), .int .i64 a] 110)) := (Below.refl _ _).alloc (Nat.le_refl _) _
  have hG1 := hG.ext hB1
  have HN := Lib.hid (words_any s a w.heap.size a0 a1 _ hs ha0 ha1 hG1 (blk_new w 110 #[.string (str s), .int .i64 a]) (glob_lt hG))
  have HG := Lib.hid hG
  clear hG hG1
  go_enter Tryd.func78, Tryd.ntmps78
  go_wp2_with fail
  refine HN.out.mono ?_
  intro e w' hp
  unfold WordsPost at hp
  cases hr : rdW s a with
  | error t =>
    rw [hr] at hp
    have hrn : readText s a = none := by simp [readText, hr]
    have HRN := Lib.hid hrn
    clear hr hrn
    cases t
    · obtain ⟨rfl, hgr⟩ := hp
      have hbl' := below_new hgr
      have HW := Lib.hid (wrong_end w' a0 a1 (HG.out.ext hbl'))
      go_wp2_with fail
      refine HW.out.mono ?_
      rintro e w2 ⟨rfl, rfl⟩
      go_wp2_with fail
      go_ret3
      exact ⟨by rw [HRN.out]; rfl, hbl'⟩
    · obtain ⟨rfl, hgr⟩ := hp
      have hbl' := below_new hgr
      have HW := Lib.hid (wrong_form w' a0 a1 (HG.out.ext hbl'))
      go_wp2_with fail
      refine HW.out.mono ?_
      rintro e w2 ⟨rfl, rfl⟩
      go_wp2_with fail
      go_ret3
      exact ⟨by rw [HRN.out]; rfl, hbl'⟩
  | ok p =>
    obtain ⟨t, z⟩ := p
    rw [hr] at hp
    have hrn : readText s a = some (t, z) := by simp [readText, hr]
    have HRN := Lib.hid hrn
    clear hr hrn
    obtain ⟨rfl, hgr, hbk⟩ := hp
    have hbl' := below_new hgr
    have HW := Lib.hid (wrong_nil w' a0 a1 (HG.out.ext hbl'))
    have c1 : w'.cell? ⟨w.heap.size, 0 + 1, none⟩ = some (.int .i64 z) := blk_cells hbk 1
    go_wp2_with fail
    refine HW.out.mono ?_
    rintro e w2 ⟨rfl, rfl⟩
    go_wp2_with fail
    refine wp_region_tail 5 hmix (by kernel_rfl) ?_; simp only [List.take_succ_cons, List.take_zero, List.drop_succ_cons, List.drop_zero]
    iterate 5 still_step
    refine wpStill_nil ?_
    go_wp2_with fail
    go_ret3
    exact ⟨by rw [HRN.out]; rfl, hbl'.drew⟩
end Go.Proofs.YtdlolkogifigpaaDoor
end

section
/- Calls of layer 1 and of the library that are known, as Sh has them. No statement of the program is proved here. -/
namespace Go.Proofs.YtdlolkogifigpaaDoor
open Go Go.RowKit Go.Mor Go.Sh

/-- What is known of the package's variables, at n blocks. -/
structure GlobN (a0 a1 : Addr) (n : Nat) (w : World) : Prop where
  g : Glob w a0 a1
  sz : n ≤ w.heap.size
  h0 : a0.block < n
  h1 : a1.block < n
  hv : 4 ≤ n
theorem tabs_st {w w' : World} {n : Nat} (hn : 4 ≤ n) (h : Lib.Utf8Tabs 2 3 w) (hk : ∀ k, k < n → w'.heap[k]? = w.heap[k]?) : Lib.Utf8Tabs 2 3 w' := by
  have hc : ∀ b o, b < n → w'.cell? ⟨b, o, none⟩ = w.cell? ⟨b, o, none⟩ := fun b o hb => World.cell?_of_block (w := w) (a := ⟨b, o, none⟩) (hk b hb)
  refine ⟨fun c hcc => ?_, fun i hi => ?_⟩
  · rw [hc _ _ (by omega)]; exact h.1 c hcc
  · obtain ⟨h1, h2⟩ := h.2 i hi
    exact ⟨by rw [hc _ _ (by omega)]; exact h1, by rw [hc _ _ (by omega)]; exact h2⟩
def gl (a0 a1 : Addr) (n : Nat) : Sh.Glob where
  G := GlobN a0 a1 n
  n := n
  st := fun w w' h hk => by
    have hle : n ≤ w'.heap.size := by
      rcases Nat.eq_zero_or_pos n with h0 | h0
      · omega
      · have := hk (n - 1) (by omega)
        rw [Array.getElem?_eq_getElem (show n - 1 < w.heap.size by have h9 := h.sz; omega)] at this
        have := (Array.getElem?_eq_some_iff.1 this).1
        omega
    have hv := h.hv
    refine ⟨⟨?_, ?_, h.g.ne, ?_, ?_, tabs_st h.hv h.g.tabs hk⟩, hle, h.h0, h.h1, h.hv⟩
    · rw [World.cell?_of_block (w := w) (hk _ (show 0 < n by omega))]; exact h.g.e0
    · rw [World.cell?_of_block (w := w) (hk _ (show 1 < n by omega))]; exact h.g.e1
    · rw [hk _ h.h0]; exact h.g.b0
    · rw [hk _ h.h1]; exact h.g.b1
  le := fun w h => h.sz

theorem relT_vals {w : World} {E : Env} {r : Sh.Rows} (vs : List Value) : RelT w E r (.tuple (vs.map fun v => .pv (.v v))) (.tuple vs.toArray) :=
  .tuple _ vs (by simp) (fun j c v hc hv => by simp [hv] at hc; subst hc; exact .pv (.v v))
/-- A call that answers a plain value, and leaves what was there. -/
theorem scalls_of {P : Program} {g : Sh.Glob} {f : Nat} {vs : List Value} {y : TV} {v : Value} (hb : hasBody P f) (hy : ∀ w E r, RelT w E r y v) (h : ∀ w, g.G w → Calls P f vs.toArray w fun e w' => e = .returned v ∧ Below w.heap.size w w') : SCalls P g f (vs.map fun v => .pv (.v v)) [] y [] := by
  refine ⟨hb, fun w E us hG hm hX hl hr => ?_⟩
  have hus : us = vs := by
    apply List.ext_getElem?
    intro j
    rcases Nat.lt_or_ge j us.length with hj | hj
    · have hj' : j < vs.length := by simpa [← hl] using hj
      have := hr j (.pv (.v vs[j])) us[j] (by simp [hj']) (List.getElem?_eq_getElem hj)
      rw [List.getElem?_eq_getElem hj, List.getElem?_eq_getElem hj']
      exact congrArg some (val_rel (y := vs[j]) this rfl)
    · rw [List.getElem?_eq_none hj, List.getElem?_eq_none (by simpa [← hl] using hj)]
  subst hus
  refine (h w hG).mono ?_
  rintro e w' ⟨rfl, hb⟩
  refine ⟨v, E, rfl, ?_, hy _ _ _, ⟨fun _ _ _ => rfl, fun _ _ _ _ => rfl, fun d e W n hd => by obtain ⟨j, _, hj⟩ := objR_inv hd; simp at hj⟩⟩
  exact MSim.ext (s := ⟨fun _ => none, objB [], objR [], fun _ => none⟩) hm hb E (fun _ _ h => h) (fun _ _ h => .inl h) (fun _ _ => ⟨rfl, rfl⟩) (fun _ _ _ => rfl) (fun _ _ => ⟨rfl, rfl⟩)

def in64 (x : Int) : Bool := decide (-9223372036854775808 ≤ x) && decide (x ≤ 9223372036854775807)
def I (x : Int) : TV := .pv (.v (.int .i64 x))
def S (s : ByteArray) : TV := .pv (.v (.string s))
def bl (s : ByteArray) : List UInt8 := s.data.toList
theorem str_bl (s : ByteArray) : str (bl s) = s := by cases s; simp [str, bl]
def numTV (r : Option (Int × Int)) : TV := match r with | some (n, b) => .tuple [I n, I b, I 0] | none => .tuple [I 0, I 0, I 10]
def readTV (r : Option (List UInt8 × Int)) : TV := match r with | some (t, b) => .tuple [S (str t), I b, I 0] | none => .tuple [S (str []), I 0, I 10]
def textTV (s : List UInt8) : TV := if s.length ≤ 10000 then .tuple [S (str (text s)), I 0] else .tuple [S (str []), I 10]
/-- What is known of calls of layer 1, and of unicode/utf8. -/
def prim1 : Oracle := fun f xs os =>
  if Nat.beq f 46 then match xs, os with
    | [.pv (.v (.int .i64 x))], [] => if in64 x then some (S (str (num x)), []) else none
    | _, _ => none
  else if Nat.beq f 35 then match xs, os with
    | [.pv (.v (.string s)), .pv (.v (.int .i64 a))], [] => if in64 a && decide ((bl s).length < 1125899906842624) then some (numTV (readNum (bl s) a), []) else none
    | _, _ => none
  else if Nat.beq f 76 then match xs, os with
    | [.pv (.v (.string s))], [] => if decide ((bl s).length ≤ 9223372036854775807) then some (textTV (bl s), []) else none
    | _, _ => none
  else if Nat.beq f 78 then match xs, os with
    | [.pv (.v (.string s)), .pv (.v (.int .i64 a))], [] => if in64 a && decide ((bl s).length < 1125899906842624) then some (readTV (readText (bl s) a), []) else none
    | _, _ => none
  else if Nat.beq f 109 then match xs, os with
    | [.pv (.v (.string s))], [] => if decide (s.size ≤ 9223372036854775807) then some (.pv (.v (.bool (Lib.validD s.data.toList))), []) else none
    | _, _ => none
  else if Nat.beq f 114 then match xs, os with
    | [.pv (.v (.string s))], [] => some (.tuple [.pv (.v (.int .i32 (Lib.decodeGo s).1)), I (Lib.decodeGo s).2], [])
    | _, _ => none
  else none
theorem body_of {f : Nat} (h : (match Tryd.prog.funcs[f]? with | some fn => fn.body.isSome && fn.name != "runtime.NumGoroutine" | none => false) = true) : hasBody Tryd.prog f := by
  split at h
  · rename_i fn hfn
    rw [Bool.and_eq_true] at h
    obtain ⟨b, hb⟩ := Option.isSome_iff_exists.1 h.1
    exact ⟨fn, b, hfn, hb, by simpa using h.2⟩
  · cases h
theorem in64_spec {x : Int} (h : in64 x = true) : -9223372036854775808 ≤ x ∧ x ≤ 9223372036854775807 := by
  unfold in64 at h
  simpa using h
theorem prim1_sound (a0 a1 : Addr) (n : Nat) : SoundC Tryd.prog (gl a0 a1 n) prim1 := by
  intro f xs os y os' h
  unfold prim1 at h
  split at h
  · rename_i hf
    obtain rfl := Nat.eq_of_beq_eq_true hf
    split at h <;> try (cases h; done)
    rename_i x
    split at h <;> try (cases h; done)
    rename_i hx
    cases h
    obtain ⟨h1, h2⟩ := in64_spec hx
    exact scalls_of (vs := [.int .i64 x]) (body_of (by kernel_rfl)) (fun w E r => .pv (.v _)) (fun w _ => Num_any x h1 h2 w)
  split at h
  · rename_i hf
    obtain rfl := Nat.eq_of_beq_eq_true hf
    split at h <;> try (cases h; done)
    rename_i s a
    split at h <;> try (cases h; done)
    rename_i hx
    cases h
    rw [Bool.and_eq_true] at hx
    obtain ⟨h1, h2⟩ := in64_spec hx.1
    refine scalls_of (vs := [.string s, .int .i64 a]) (v := numRes (readNum (bl s) a)) (body_of (by kernel_rfl)) (fun w E r => ?_) (fun w hG => ?_)
    · generalize readNum (bl s) a = q
      cases q with
      | none => exact relT_vals [_, _, _]
      | some p => exact relT_vals [_, _, _]
    · have := ReadNum_any (bl s) a a0 a1 w (by simpa using hx.2) h1 h2 hG.g
      rw [str_bl] at this; exact this
  split at h
  · rename_i hf
    obtain rfl := Nat.eq_of_beq_eq_true hf
    split at h <;> try (cases h; done)
    rename_i s
    split at h <;> try (cases h; done)
    rename_i hx
    cases h
    refine scalls_of (vs := [.string s]) (v := textRes (bl s)) (body_of (by kernel_rfl)) (fun w E r => ?_) (fun w hG => ?_)
    · unfold textRes textTV
      split <;> exact relT_vals [_, _]
    · have := Text_any (bl s) w (by simpa using hx)
      rw [str_bl] at this; exact this
  split at h
  · rename_i hf
    obtain rfl := Nat.eq_of_beq_eq_true hf
    split at h <;> try (cases h; done)
    rename_i s a
    split at h <;> try (cases h; done)
    rename_i hx
    cases h
    rw [Bool.and_eq_true] at hx
    obtain ⟨h1, h2⟩ := in64_spec hx.1
    refine scalls_of (vs := [.string s, .int .i64 a]) (v := readRes (readText (bl s) a)) (body_of (by kernel_rfl)) (fun w E r => ?_) (fun w hG => ?_)
    · generalize readText (bl s) a = q
      cases q with
      | none => exact relT_vals [_, _, _]
      | some p => exact relT_vals [_, _, _]
    · have := ReadText_any (bl s) a a0 a1 w (by simpa using hx.2) h1 h2 hG.g
      rw [str_bl] at this; exact this
  split at h
  · rename_i hf
    obtain rfl := Nat.eq_of_beq_eq_true hf
    split at h <;> try (cases h; done)
    rename_i s
    split at h <;> try (cases h; done)
    rename_i hx
    cases h
    exact scalls_of (vs := [.string s]) (body_of (by kernel_rfl)) (fun w E r => .pv (.v _)) (fun w hG => Tryd.utf8_ValidString s w (by simpa using hx) hG.g.tabs)
  split at h
  · rename_i hf
    obtain rfl := Nat.eq_of_beq_eq_true hf
    split at h <;> try (cases h; done)
    rename_i s
    cases h
    exact scalls_of (vs := [.string s]) (v := .tuple #[.int .i32 (Lib.decodeGo s).1, .int .i64 (Lib.decodeGo s).2]) (body_of (by kernel_rfl)) (fun w E r => relT_vals [_, _]) (fun w hG => Tryd.utf8_DecodeRuneInString s w hG.g.tabs)
  · cases h
end Go.Proofs.YtdlolkogifigpaaDoor
end

section
/- The plain functions of the given program's layers 1, 3 and 4: what its calls answer, on lists and numbers. -/
namespace Go.Mor

/-- May a sign stand in a text? -/
def plainR (r : Nat) : Bool := decide (32 ≤ r) && r != 127
def plainGo : Nat → List UInt8 → Bool
  | 0, _ => true
  | n + 1, l => if l = [] then true else plainR (Lib.decodeL l).1 && plainGo n (l.drop (Lib.decodeL l).2)
def plainD (l : List UInt8) : Bool := plainGo l.length l
theorem plainGo_more : ∀ (n : Nat) (l : List UInt8), l.length ≤ n → plainGo n l = plainD l := by
  intro n
  induction n using Nat.strongRecOn with
  | _ n ih =>
    intro l hl
    unfold plainD
    cases l with
    | nil => cases n <;> simp [plainGo]
    | cons b t =>
      obtain ⟨m, rfl⟩ : ∃ m, n = m + 1 := ⟨n - 1, by simp at hl; omega⟩
      have hw := Lib.decodeL_width (b :: t)
      simp only [plainGo, List.length_cons, reduceCtorEq, if_false]
      have h1 : (List.drop (Lib.decodeL (b :: t)).2 (b :: t)).length ≤ t.length := by simp; omega
      simp at hl
      rw [ih m (by omega) _ (by omega)]
      by_cases he : t.length = m
      · rw [he, ih m (by omega) _ (by omega)]
      · rw [ih t.length (by omega) _ h1]
theorem plainD_step (l : List UInt8) (hne : l ≠ []) : plainD l = (plainR (Lib.decodeL l).1 && plainD (l.drop (Lib.decodeL l).2)) := by
  cases l with
  | nil => exact absurd rfl hne
  | cons b t =>
    have hw := Lib.decodeL_width (b :: t)
    conv => lhs; unfold plainD
    simp only [plainGo, List.length_cons, reduceCtorEq, if_false]
    rw [plainGo_more t.length _ (by simp; omega)]
def rightText (s : List UInt8) : Bool := decide (s.length ≤ 60) && (Lib.validD s && plainD s)

def rightID (n : Int) : Bool := decide (1 ≤ n ∧ n ≤ 100000 ∨ -20 ≤ n ∧ n ≤ -1)
def bare (x : V) : Bool := x.s == [] && x.l.length == 0

/-- A value that is no list. -/
def right1 (x : V) : Bool :=
  if x.k = 0 then bare x && x.n == 0
  else if x.k = 1 then bare x && decide (-1000000000000000 ≤ x.n) && decide (x.n ≤ 1000000000000000)
  else if x.k = 2 then x.n == 0 && x.l.length == 0 && rightText x.s
  else if x.k = 3 ∨ x.k = 4 then bare x && rightID x.n
  else false
def noItem (x : V) : Bool := x.k == 5 || !right1 x
def rightV (x : V) : Bool :=
  if x.k = 5 then x.n == 0 && x.s == [] && decide (x.l.length ≤ 12) && !x.l.any noItem else right1 x

/-- A type. -/
structure Ty where
  k : Int
  o : Int
def rightType (t : Ty) : Bool := if t.k = 5 then decide (1 ≤ t.o ∧ t.o ≤ 4) else decide (1 ≤ t.k ∧ t.k ≤ 4 ∧ t.o = 0)
def ofKind (x : V) (k : Int) : Bool := x.k == k || (x.k == 0 && (k == 3 || k == 4))
def fitsV (x : V) (t : Ty) : Bool := rightV x && rightType t && ofKind x t.k && !x.l.any (fun y => !ofKind y t.o)
def zeroV (t : Ty) : V := if !rightType t || t.k == 3 || t.k == 4 then V.nil else .mk t.k 0 [] []

end Go.Mor
end

section
/- The document's signs of texts, and Go's own decoder: the same. -/
namespace Go.Mor
open Go
set_option maxHeartbeats 4000000

/-- How many bytes the first sign has: of so many bytes, by its first four. -/
def signN (n b0 b1 b2 b3 : Nat) : Nat :=
  if b0 < 128 then 1
  else if 194 ≤ b0 ∧ b0 ≤ 223 then (if n < 2 ∨ b1 < 128 ∨ 191 < b1 then 0 else 2)
  else if 224 ≤ b0 ∧ b0 ≤ 239 then (if n < 3 ∨ b1 < (if b0 = 224 then 160 else 128) ∨ (if b0 = 237 then 159 else 191) < b1 ∨ b2 < 128 ∨ 191 < b2 then 0 else 3)
  else if 240 ≤ b0 ∧ b0 ≤ 244 then (if n < 4 ∨ b1 < (if b0 = 240 then 144 else 128) ∨ (if b0 = 244 then 143 else 191) < b1 ∨ b2 < 128 ∨ 191 < b2 ∨ b3 < 128 ∨ 191 < b3 then 0 else 4)
  else 0
def signL (l : List UInt8) : Nat := if l = [] then 0 else signN l.length (l.getD 0 0).toNat (l.getD 1 0).toNat (l.getD 2 0).toNat (l.getD 3 0).toNat
theorem signN_decode (n b0 b1 b2 b3 : Nat) (h0 : b0 < 256) (h1 : b1 < 256) (h2 : b2 < 256) (h3 : b3 < 256) :
    signN n b0 b1 b2 b3 = if (Lib.decodeN n b0 b1 b2 b3).1 = 65533 ∧ (Lib.decodeN n b0 b1 b2 b3).2 = 1 then 0 else (Lib.decodeN n b0 b1 b2 b3).2 := by
  unfold signN Lib.decodeN
  repeat' split
  all_goals (simp_all <;> omega)
end Go.Mor
end

section
/- Small functions of chapter 3's statements, as plain functions. No statement of the program is proved here. -/
namespace Go.Proofs.YtdlolkogifigpaaDoor
open Go Go.RowKit Go.Mor Go.Sh Go.Sh.Cd1
set_option maxRecDepth 100000
set_option maxHeartbeats 2000000
/-- The rules of walks. -/
theorem shA : (type_of% @Go.Proofs.YtdlolkogifigpaaDoor.I.eq_1) ∧ (type_of% @Go.Proofs.YtdlolkogifigpaaDoor.S.eq_1) ∧ (type_of% @Go.Sh.bFT) ∧ (type_of% @Go.Sh.bTF) ∧ (type_of% @Go.Sh.regE1.eq_1) ∧ (type_of% @Go.Sh.runE.eq_1) ∧ (type_of% @Go.Sh.runE.eq_2) ∧ (type_of% @Go.Sh.ES.fgt.eq_1) ∧ (type_of% @List.map_cons.{0, 0}) ∧ (type_of% @List.map_nil.{0, 0}) ∧ (type_of% @Go.Sh.fgt3.eq_1) ∧ (type_of% @Go.Sh.TV.m3.eq_1) ∧ (type_of% @Go.Sh.TV.m3.eq_2) ∧ (type_of% @Go.Sh.TV.m2.eq_1) ∧ (type_of% @Go.Sh.TV.m2.eq_2) ∧ (type_of% @Go.Sh.TV.m1.eq_1) ∧ (type_of% @Go.Sh.TV.m1.eq_2) ∧ (type_of% @Go.Sh.TV.m0.eq_1) ∧ (type_of% @Go.Sh.TV.m0.eq_2) ∧ (type_of% @Go.Sh.TV.m0.eq_3) ∧ (type_of% @Go.Sh.TV.m0.eq_4) ∧ (type_of% @Go.Sh.TV.m0.eq_5) ∧ (type_of% @Go.Sh.TV.m0.eq_6) ∧ (type_of% @Go.Sh.TV.m0.eq_7) ∧ (type_of% @List.any_cons.{0}) ∧ (type_of% @List.any_nil.{0}) ∧ (type_of% @Bool.or_false) ∧ (type_of% @Bool.false_or) ∧ (type_of% @Go.Sh.drp.eq_1) ∧ (type_of% @Go.Sh.drp.eq_2) ∧ (type_of% @Go.Sh.effG.eq_1) ∧ (type_of% @Go.Sh.effF.eq_1) ∧ (type_of% @Go.Sh.footOk.eq_1) ∧ (type_of% @Go.Sh.SOp.foot.eq_1) ∧ (type_of% @Go.Sh.SOp.foot.eq_2) ∧ (type_of% @Go.Sh.SOp.foot.eq_3) ∧ (type_of% @Go.Sh.eff.eq_1) ∧ (type_of% @Go.Sh.eff.eq_2) ∧ (type_of% @Go.Sh.eff.eq_3) ∧ (type_of% @Go.Sh.eff.eq_4) ∧ (type_of% @Go.Sh.eff.eq_5) ∧ (type_of% @Go.Sh.eff.eq_6) ∧ (type_of% @Go.Sh.eff.eq_7) ∧ (type_of% @Go.Sh.eff.eq_8) ∧ (type_of% @Go.Sh.eff.eq_9) ∧ (type_of% @Go.Sh.eff.eq_10) ∧ (type_of% @Go.Sh.eff.eq_11) ∧ (type_of% @Go.Sh.eff.eq_12) ∧ (type_of% @Go.Sh.eff.eq_13) ∧ (type_of% @Go.Sh.eff.eq_14) ∧ (type_of% @Go.Sh.eff.eq_15) ∧ (type_of% @Go.Sh.eff.eq_16) ∧ (type_of% @Go.Sh.eff.eq_17) ∧ (type_of% @Go.Sh.eff.eq_18) ∧ (type_of% @Go.Sh.eff.eq_19) ∧ (type_of% @Go.Sh.eff.eq_20) ∧ (type_of% @Go.Sh.eff.eq_21) ∧ (type_of% @Go.Sh.eff.eq_22) ∧ (type_of% @Go.Sh.eff.eq_23) ∧ (type_of% @Go.Sh.eff.eq_24) ∧ (type_of% @Go.Sh.eff.eq_25) ∧ (type_of% @Go.Sh.eff.eq_26) ∧ (type_of% @Go.Sh.eff.eq_27) ∧ (type_of% @Go.Sh.eff.eq_28) ∧ (type_of% @Go.Sh.eff.eq_29) ∧ (type_of% @Go.Sh.eff.eq_30) ∧ (type_of% @Go.Sh.eff.eq_31) ∧ (type_of% @Go.Sh.eff.eq_32) ∧ (type_of% @Go.Sh.eff.eq_33) ∧ (type_of% @Go.Sh.eff.eq_34) ∧ (type_of% @Go.Sh.eff.eq_35) ∧ (type_of% @Go.Sh.eff.eq_36) ∧ (type_of% @Go.Sh.eff.eq_37) ∧ (type_of% @Go.Sh.eff.eq_38) ∧ (type_of% @Go.Sh.eff.eq_39) ∧ (type_of% @Go.Sh.eff.eq_40) ∧ (type_of% @Go.Sh.Arg.get.eq_1) ∧ (type_of% @Go.Sh.Arg.get.eq_2) ∧ (type_of% @Go.Sh.ES.fs.eq_1) ∧ (type_of% @Go.Sh.lk.eq_1) ∧ (type_of% @Go.Sh.lk.eq_2) ∧ (type_of% @Option.map_some.{0, 0}) ∧ (type_of% @Option.bind_some.{0, 0}) ∧ (type_of% @Go.Sh.ES.after.eq_1) ∧ (type_of% @Go.Sh.ES.upd.eq_1) ∧ (type_of% @Go.Sh.ES.upd.eq_2) ∧ (type_of% @Go.Sh.ES.upd.eq_3) ∧ (type_of% @Go.Sh.ES.upd.eq_4) ∧ (type_of% @Go.Sh.ES.upd.eq_5) ∧ (type_of% @Go.Sh.ES.upd.eq_6) ∧ (type_of% @Go.Sh.ES.upd.eq_7) ∧ (type_of% @Go.Sh.ES.put.eq_1) ∧ (type_of% @Go.Sh.ES.put.eq_2) ∧ (type_of% @Go.Sh.sv.eq_1) ∧ (type_of% @Go.Sh.sv.eq_2) ∧ (type_of% @Go.Sh.ES.kill.eq_1) ∧ (type_of% @Go.Sh.ES.kill.eq_2) ∧ (type_of% @Go.Sh.has.eq_1) ∧ (type_of% @Go.Sh.has.eq_2) ∧ (type_of% @Go.Sh.nbeq) ∧ (type_of% @Go.Sh.nble) ∧ (type_of% @Go.Sh.nblt) ∧ (type_of% @Go.Sh.TV.val.eq_1) ∧ (type_of% @Go.Sh.TV.val.eq_2) ∧ (type_of% @Go.Sh.TV.val1.eq_1) ∧ (type_of% @Go.Sh.TV.val1.eq_2) ∧ (type_of% @Go.Sh.TV.int.eq_1) ∧ (type_of% @Go.Sh.TV.int.eq_2) ∧ (type_of% @Go.Sh.TV.str.eq_1) ∧ (type_of% @Go.Sh.TV.str.eq_2) ∧ (type_of% @Go.Sh.TV.cells.eq_1) ∧ (type_of% @Go.Sh.TV.cells.eq_2) ∧ (type_of% @Go.Sh.TV.cells.eq_3) ∧ (type_of% @Go.Sh.TV.cells.eq_4) ∧ (type_of% @Go.Sh.TV.cells.eq_5) ∧ (type_of% @Go.Sh.TV.slen.eq_1) ∧ (type_of% @Go.Sh.TV.slen.eq_2) ∧ (type_of% @Go.Sh.TV.slen.eq_3) ∧ (type_of% @Go.Sh.TV.slen.eq_4) ∧ (type_of% @Go.Sh.TV.slen.eq_5) ∧ (type_of% @Go.Sh.TV.toPV.eq_1) ∧ (type_of% @Go.Sh.TV.toPV.eq_2) ∧ (type_of% @Go.Sh.TV.toPV.eq_3) ∧ (type_of% @Go.Sh.TV.pvs.eq_1) ∧ (type_of% @Go.Sh.seqO.eq_1) ∧ (type_of% @Go.Sh.seqO.eq_2) ∧ (type_of% @Go.Sh.bin_lss) ∧ (type_of% @Go.Sh.bin_gtr) ∧ (type_of% @Go.Sh.bin_leq) ∧ (type_of% @Go.Sh.bin_geq) ∧ (type_of% @Go.Sh.bin_eql) ∧ (type_of% @Go.Sh.bin_neq) ∧ (type_of% @Go.Sh.bin_add) ∧ (type_of% @Go.Sh.bin_sub) ∧ (type_of% @Go.Sh.bin_mul) ∧ (type_of% @Go.Sh.sbin_eql) ∧ (type_of% @Go.Sh.sbin_neq) ∧ (type_of% @Go.Sh.sbin_lss) ∧ (type_of% @Go.Sh.sbin_gtr) ∧ (type_of% @Go.Sh.un_neg) ∧ (type_of% @Go.Sh.un_not) ∧ (type_of% @Go.Sh.startE.eq_1) ∧ (type_of% @Go.Sh.numT.eq_1) ∧ (type_of% @Go.Sh.numT.eq_2) ∧ (type_of% @Go.Sh.numB.eq_1) ∧ (type_of% @Go.Sh.numB.eq_2) ∧ (type_of% @Go.Sh.numB.eq_3) ∧ (type_of% @Go.Sh.numR.eq_1) ∧ (type_of% @Go.Sh.numR.eq_2) ∧ (type_of% @Go.Sh.numR.eq_3) ∧ (type_of% @Go.Sh.ansW.eq_1) ∧ (type_of% @Go.Sh.ansW.eq_2) ∧ (type_of% @Go.Sh.resT.eq_1) ∧ (type_of% @Go.Sh.resT.eq_2) ∧ (type_of% @Go.Sh.SRes.get.eq_1) ∧ (type_of% @Go.Sh.SRes.get.eq_2) ∧ (type_of% @List.flatMap_nil.{0, 0}) ∧ (type_of% @List.flatMap_cons.{0, 0}) ∧ (type_of% @List.append_nil.{0}) ∧ (type_of% @List.nil_append.{0}) ∧ (type_of% @Go.Sh.TV.ids3.eq_1) ∧ (type_of% @Go.Sh.TV.ids3.eq_2) ∧ (type_of% @Go.Sh.TV.ids2.eq_1) ∧ (type_of% @Go.Sh.TV.ids2.eq_2) ∧ (type_of% @Go.Sh.TV.ids1.eq_1) ∧ (type_of% @Go.Sh.TV.ids1.eq_2) ∧ (type_of% @Go.Sh.TV.ids0.eq_1) ∧ (type_of% @Go.Sh.TV.ids0.eq_2) ∧ (type_of% @Go.Sh.TV.ids0.eq_3) ∧ (type_of% @Go.Sh.TV.ids0.eq_4) ∧ (type_of% @Go.Sh.TV.ren3.eq_1) ∧ (type_of% @Go.Sh.TV.ren3.eq_2) ∧ (type_of% @Go.Sh.TV.ren2.eq_1) ∧ (type_of% @Go.Sh.TV.ren2.eq_2) ∧ (type_of% @Go.Sh.TV.ren1.eq_1) ∧ (type_of% @Go.Sh.TV.ren1.eq_2) ∧ (type_of% @Go.Sh.TV.ren0.eq_1) ∧ (type_of% @Go.Sh.TV.ren0.eq_2) ∧ (type_of% @Go.Sh.TV.ren0.eq_3) ∧ (type_of% @Go.Sh.TV.ren0.eq_4) ∧ (type_of% @Go.Sh.TV.ren0.eq_5) ∧ (type_of% @Go.Sh.TV.ren0.eq_6) ∧ (type_of% @Go.Sh.bound.eq_1) ∧ (type_of% @Go.Sh.bound.eq_2) ∧ (type_of% @if_true.{1}) ∧ (type_of% @if_false.{1}) ∧ (type_of% @Bool.false_eq_true) ∧ (type_of% @Go.Sh.partsT.eq_1) ∧ (type_of% @Go.Sh.fillT.eq_1) ∧ (type_of% @Go.Sh.fillT.eq_2) ∧ (type_of% @Go.Sh.splice.eq_1) ∧ (type_of% @List.take_zero.{0}) ∧ (type_of% @List.take_succ_cons.{0}) ∧ (type_of% @List.drop_zero.{0}) ∧ (type_of% @List.drop_succ_cons.{0}) ∧ (type_of% @List.length_cons.{0}) ∧ (type_of% @List.length_nil.{0}) ∧ (type_of% @and_self) ∧ (type_of% @and_true) ∧ (type_of% @true_and) ∧ (type_of% @List.cons_append.{0}) ∧ (type_of% @List.getElem?_cons_zero.{0}) ∧ (type_of% @List.getElem?_cons_succ.{0}) ∧ (type_of% @Nat.zero_add) ∧ (type_of% @Bool.not_true) ∧ (type_of% @Bool.not_false) ∧ (type_of% @Go.Value.oneCell'.eq_1) ∧ (type_of% @Go.Value.oneCell'.eq_2) ∧ (type_of% @Go.Value.oneCell'.eq_3) ∧ (type_of% @Go.Mor.str_toList) ∧ (type_of% @Go.Mor.str_size') ∧ (type_of% @Int.toNat_natCast) ∧ (type_of% @decide_true) ∧ (type_of% @decide_false) ∧ (type_of% @beq_self_eq_true.{0}) ∧ (type_of% @Go.Sh.handI.eq_1) ∧ (type_of% @Go.Sh.FS.mo.eq_1) ∧ (type_of% @Go.Sh.MO.ren.eq_1) ∧ (type_of% @Go.Sh.MO.ren.eq_2) ∧ (type_of% @Go.Sh.rhoIn.eq_1) ∧ (type_of% @Go.Sh.pos.eq_1) ∧ (type_of% @Go.Sh.pos.eq_2) ∧ (type_of% @Go.Sh.rhoOut.eq_1) ∧ (type_of% @Go.Sh.outs.eq_1) ∧ (type_of% @Go.Sh.outs.eq_2) ∧ (type_of% @Go.Sh.newId.eq_1) ∧ (type_of% @Go.Sh.dstId.eq_1) ∧ (type_of% @Go.Sh.dstId.eq_2) ∧ (type_of% @Go.Sh.putMem.eq_1) ∧ (type_of% @Go.Sh.putMem.eq_2) ∧ (type_of% @List.lookup.eq_1.{0, 0}) ∧ (type_of% @List.lookup.eq_2.{0, 0}) ∧ (type_of% @Go.Sh.moOk.eq_1) ∧ (type_of% @Go.Sh.moOk.eq_2) ∧ (type_of% @Go.Sh.moOk.eq_3) ∧ (type_of% @Go.Sh.moOk.eq_4) ∧ (type_of% @Nat.le_refl) ∧ (type_of% @Int.natCast_nonneg) :=
  ⟨@Go.Proofs.YtdlolkogifigpaaDoor.I.eq_1, @Go.Proofs.YtdlolkogifigpaaDoor.S.eq_1, @Go.Sh.bFT, @Go.Sh.bTF, @Go.Sh.regE1.eq_1, @Go.Sh.runE.eq_1, @Go.Sh.runE.eq_2, @Go.Sh.ES.fgt.eq_1, @List.map_cons.{0, 0}, @List.map_nil.{0, 0}, @Go.Sh.fgt3.eq_1, @Go.Sh.TV.m3.eq_1, @Go.Sh.TV.m3.eq_2, @Go.Sh.TV.m2.eq_1, @Go.Sh.TV.m2.eq_2, @Go.Sh.TV.m1.eq_1, @Go.Sh.TV.m1.eq_2, @Go.Sh.TV.m0.eq_1, @Go.Sh.TV.m0.eq_2, @Go.Sh.TV.m0.eq_3, @Go.Sh.TV.m0.eq_4, @Go.Sh.TV.m0.eq_5, @Go.Sh.TV.m0.eq_6, @Go.Sh.TV.m0.eq_7, @List.any_cons.{0}, @List.any_nil.{0}, @Bool.or_false, @Bool.false_or, @Go.Sh.drp.eq_1, @Go.Sh.drp.eq_2, @Go.Sh.effG.eq_1, @Go.Sh.effF.eq_1, @Go.Sh.footOk.eq_1, @Go.Sh.SOp.foot.eq_1, @Go.Sh.SOp.foot.eq_2, @Go.Sh.SOp.foot.eq_3, @Go.Sh.eff.eq_1, @Go.Sh.eff.eq_2, @Go.Sh.eff.eq_3, @Go.Sh.eff.eq_4, @Go.Sh.eff.eq_5, @Go.Sh.eff.eq_6, @Go.Sh.eff.eq_7, @Go.Sh.eff.eq_8, @Go.Sh.eff.eq_9, @Go.Sh.eff.eq_10, @Go.Sh.eff.eq_11, @Go.Sh.eff.eq_12, @Go.Sh.eff.eq_13, @Go.Sh.eff.eq_14, @Go.Sh.eff.eq_15, @Go.Sh.eff.eq_16, @Go.Sh.eff.eq_17, @Go.Sh.eff.eq_18, @Go.Sh.eff.eq_19, @Go.Sh.eff.eq_20, @Go.Sh.eff.eq_21, @Go.Sh.eff.eq_22, @Go.Sh.eff.eq_23, @Go.Sh.eff.eq_24, @Go.Sh.eff.eq_25, @Go.Sh.eff.eq_26, @Go.Sh.eff.eq_27, @Go.Sh.eff.eq_28, @Go.Sh.eff.eq_29, @Go.Sh.eff.eq_30, @Go.Sh.eff.eq_31, @Go.Sh.eff.eq_32, @Go.Sh.eff.eq_33, @Go.Sh.eff.eq_34, @Go.Sh.eff.eq_35, @Go.Sh.eff.eq_36, @Go.Sh.eff.eq_37, @Go.Sh.eff.eq_38, @Go.Sh.eff.eq_39, @Go.Sh.eff.eq_40, @Go.Sh.Arg.get.eq_1, @Go.Sh.Arg.get.eq_2, @Go.Sh.ES.fs.eq_1, @Go.Sh.lk.eq_1, @Go.Sh.lk.eq_2, @Option.map_some.{0, 0}, @Option.bind_some.{0, 0}, @Go.Sh.ES.after.eq_1, @Go.Sh.ES.upd.eq_1, @Go.Sh.ES.upd.eq_2, @Go.Sh.ES.upd.eq_3, @Go.Sh.ES.upd.eq_4, @Go.Sh.ES.upd.eq_5, @Go.Sh.ES.upd.eq_6, @Go.Sh.ES.upd.eq_7, @Go.Sh.ES.put.eq_1, @Go.Sh.ES.put.eq_2, @Go.Sh.sv.eq_1, @Go.Sh.sv.eq_2, @Go.Sh.ES.kill.eq_1, @Go.Sh.ES.kill.eq_2, @Go.Sh.has.eq_1, @Go.Sh.has.eq_2, @Go.Sh.nbeq, @Go.Sh.nble, @Go.Sh.nblt, @Go.Sh.TV.val.eq_1, @Go.Sh.TV.val.eq_2, @Go.Sh.TV.val1.eq_1, @Go.Sh.TV.val1.eq_2, @Go.Sh.TV.int.eq_1, @Go.Sh.TV.int.eq_2, @Go.Sh.TV.str.eq_1, @Go.Sh.TV.str.eq_2, @Go.Sh.TV.cells.eq_1, @Go.Sh.TV.cells.eq_2, @Go.Sh.TV.cells.eq_3, @Go.Sh.TV.cells.eq_4, @Go.Sh.TV.cells.eq_5, @Go.Sh.TV.slen.eq_1, @Go.Sh.TV.slen.eq_2, @Go.Sh.TV.slen.eq_3, @Go.Sh.TV.slen.eq_4, @Go.Sh.TV.slen.eq_5, @Go.Sh.TV.toPV.eq_1, @Go.Sh.TV.toPV.eq_2, @Go.Sh.TV.toPV.eq_3, @Go.Sh.TV.pvs.eq_1, @Go.Sh.seqO.eq_1, @Go.Sh.seqO.eq_2, @Go.Sh.bin_lss, @Go.Sh.bin_gtr, @Go.Sh.bin_leq, @Go.Sh.bin_geq, @Go.Sh.bin_eql, @Go.Sh.bin_neq, @Go.Sh.bin_add, @Go.Sh.bin_sub, @Go.Sh.bin_mul, @Go.Sh.sbin_eql, @Go.Sh.sbin_neq, @Go.Sh.sbin_lss, @Go.Sh.sbin_gtr, @Go.Sh.un_neg, @Go.Sh.un_not, @Go.Sh.startE.eq_1, @Go.Sh.numT.eq_1, @Go.Sh.numT.eq_2, @Go.Sh.numB.eq_1, @Go.Sh.numB.eq_2, @Go.Sh.numB.eq_3, @Go.Sh.numR.eq_1, @Go.Sh.numR.eq_2, @Go.Sh.numR.eq_3, @Go.Sh.ansW.eq_1, @Go.Sh.ansW.eq_2, @Go.Sh.resT.eq_1, @Go.Sh.resT.eq_2, @Go.Sh.SRes.get.eq_1, @Go.Sh.SRes.get.eq_2, @List.flatMap_nil.{0, 0}, @List.flatMap_cons.{0, 0}, @List.append_nil.{0}, @List.nil_append.{0}, @Go.Sh.TV.ids3.eq_1, @Go.Sh.TV.ids3.eq_2, @Go.Sh.TV.ids2.eq_1, @Go.Sh.TV.ids2.eq_2, @Go.Sh.TV.ids1.eq_1, @Go.Sh.TV.ids1.eq_2, @Go.Sh.TV.ids0.eq_1, @Go.Sh.TV.ids0.eq_2, @Go.Sh.TV.ids0.eq_3, @Go.Sh.TV.ids0.eq_4, @Go.Sh.TV.ren3.eq_1, @Go.Sh.TV.ren3.eq_2, @Go.Sh.TV.ren2.eq_1, @Go.Sh.TV.ren2.eq_2, @Go.Sh.TV.ren1.eq_1, @Go.Sh.TV.ren1.eq_2, @Go.Sh.TV.ren0.eq_1, @Go.Sh.TV.ren0.eq_2, @Go.Sh.TV.ren0.eq_3, @Go.Sh.TV.ren0.eq_4, @Go.Sh.TV.ren0.eq_5, @Go.Sh.TV.ren0.eq_6, @Go.Sh.bound.eq_1, @Go.Sh.bound.eq_2, @if_true.{1}, @if_false.{1}, @Bool.false_eq_true, @Go.Sh.partsT.eq_1, @Go.Sh.fillT.eq_1, @Go.Sh.fillT.eq_2, @Go.Sh.splice.eq_1, @List.take_zero.{0}, @List.take_succ_cons.{0}, @List.drop_zero.{0}, @List.drop_succ_cons.{0}, @List.length_cons.{0}, @List.length_nil.{0}, @and_self, @and_true, @true_and, @List.cons_append.{0}, @List.getElem?_cons_zero.{0}, @List.getElem?_cons_succ.{0}, @Nat.zero_add, @Bool.not_true, @Bool.not_false, @Go.Value.oneCell'.eq_1, @Go.Value.oneCell'.eq_2, @Go.Value.oneCell'.eq_3, @Go.Mor.str_toList, @Go.Mor.str_size', @Int.toNat_natCast, @decide_true, @decide_false, @beq_self_eq_true.{0}, @Go.Sh.handI.eq_1, @Go.Sh.FS.mo.eq_1, @Go.Sh.MO.ren.eq_1, @Go.Sh.MO.ren.eq_2, @Go.Sh.rhoIn.eq_1, @Go.Sh.pos.eq_1, @Go.Sh.pos.eq_2, @Go.Sh.rhoOut.eq_1, @Go.Sh.outs.eq_1, @Go.Sh.outs.eq_2, @Go.Sh.newId.eq_1, @Go.Sh.dstId.eq_1, @Go.Sh.dstId.eq_2, @Go.Sh.putMem.eq_1, @Go.Sh.putMem.eq_2, @List.lookup.eq_1.{0, 0}, @List.lookup.eq_2.{0, 0}, @Go.Sh.moOk.eq_1, @Go.Sh.moOk.eq_2, @Go.Sh.moOk.eq_3, @Go.Sh.moOk.eq_4, @Nat.le_refl, @Int.natCast_nonneg⟩
theorem hmix : Tryd.prog.follows .mixedOrders = true := by kernel_rfl
def ordI (a b : Int) : Int := if a < b then -1 else if b < a then 1 else 0
theorem order_ok (g : Sh.Glob) (a b : Int) : SCalls Tryd.prog g 91 [I a, I b] [] (I (ordI a b)) [] := by
  refine call_of0 hmix tf_moraineref03_Order rfl ?_
  unfold ordI
  by_cases h1 : a < b
  · have d1 := decide_T h1
    repeat (first | (with_reducible apply w_unr) | (with_reducible apply w_assoc) | (with_reducible apply w_skip) | (with_reducible apply w_ret) | (with_reducible apply w_retE) | (with_reducible apply w_skipE) | (with_reducible apply w_exit) | (with_reducible apply w_exitE) | (with_reducible apply w_block) | (with_reducible apply w_blockE) | ((with_reducible apply w_reg); · simp only [shA, eff, Int.reduceEq, Int.reduceAdd, Int.reduceSub, Nat.reduceBEq, Nat.reduceEqDiff, reduceCtorEq, Nat.reduceAdd, Nat.reduceSub, Nat.reduceMul, Nat.reduceLeDiff, Int.reduceToNat, Int.reduceLT, Int.reduceLE, Int.reduceNeg, d1]; with_reducible rfl) | ((with_reducible apply w_regE); · simp only [shA, eff, Int.reduceEq, Int.reduceAdd, Int.reduceSub, Nat.reduceBEq, Nat.reduceEqDiff, reduceCtorEq, Nat.reduceAdd, Nat.reduceSub, Nat.reduceMul, Nat.reduceLeDiff, Int.reduceToNat, Int.reduceLT, Int.reduceLE, Int.reduceNeg, d1]; with_reducible rfl) | ((with_reducible apply w_condT); · simp only [shA, eff, Int.reduceEq, Int.reduceAdd, Int.reduceSub, Nat.reduceBEq, Nat.reduceEqDiff, reduceCtorEq, Nat.reduceAdd, Nat.reduceSub, Nat.reduceMul, Nat.reduceLeDiff, Int.reduceToNat, Int.reduceLT, Int.reduceLE, Int.reduceNeg, d1]) | ((with_reducible apply w_condF); · simp only [shA, eff, Int.reduceEq, Int.reduceAdd, Int.reduceSub, Nat.reduceBEq, Nat.reduceEqDiff, reduceCtorEq, Nat.reduceAdd, Nat.reduceSub, Nat.reduceMul, Nat.reduceLeDiff, Int.reduceToNat, Int.reduceLT, Int.reduceLE, Int.reduceNeg, d1]) | ((with_reducible apply w_condTE); · simp only [shA, eff, Int.reduceEq, Int.reduceAdd, Int.reduceSub, Nat.reduceBEq, Nat.reduceEqDiff, reduceCtorEq, Nat.reduceAdd, Nat.reduceSub, Nat.reduceMul, Nat.reduceLeDiff, Int.reduceToNat, Int.reduceLT, Int.reduceLE, Int.reduceNeg, d1]) | ((with_reducible apply w_condFE); · simp only [shA, eff, Int.reduceEq, Int.reduceAdd, Int.reduceSub, Nat.reduceBEq, Nat.reduceEqDiff, reduceCtorEq, Nat.reduceAdd, Nat.reduceSub, Nat.reduceMul, Nat.reduceLeDiff, Int.reduceToNat, Int.reduceLT, Int.reduceLE, Int.reduceNeg, d1]) | (with_reducible apply q_then) | (with_reducible apply q_blockN) | (with_reducible apply q_blockR) | (with_reducible apply q_thenR) | (with_reducible apply q_thenX) | (with_reducible apply q_blockX) | ((with_reducible apply q_blockY); · rfl))
    simp [Post0, ansW, resT, SRes.get, ES.fs, ES.kill, has, drp, seqO, nbeq, lk, I, S, TV.ids3, TV.ids2, TV.ids1, TV.ids0, TV.ren3, TV.ren2, TV.ren1, TV.ren0, F_moraineref03_Order, h1]
  · have d1 := decide_F h1
    by_cases h2 : b < a
    · have d2 := decide_T h2
      repeat (first | (with_reducible apply w_unr) | (with_reducible apply w_assoc) | (with_reducible apply w_skip) | (with_reducible apply w_ret) | (with_reducible apply w_retE) | (with_reducible apply w_skipE) | (with_reducible apply w_exit) | (with_reducible apply w_exitE) | (with_reducible apply w_block) | (with_reducible apply w_blockE) | ((with_reducible apply w_reg); · simp only [shA, eff, Int.reduceEq, Int.reduceAdd, Int.reduceSub, Nat.reduceBEq, Nat.reduceEqDiff, reduceCtorEq, Nat.reduceAdd, Nat.reduceSub, Nat.reduceMul, Nat.reduceLeDiff, Int.reduceToNat, Int.reduceLT, Int.reduceLE, Int.reduceNeg, d1, d2]; with_reducible rfl) | ((with_reducible apply w_regE); · simp only [shA, eff, Int.reduceEq, Int.reduceAdd, Int.reduceSub, Nat.reduceBEq, Nat.reduceEqDiff, reduceCtorEq, Nat.reduceAdd, Nat.reduceSub, Nat.reduceMul, Nat.reduceLeDiff, Int.reduceToNat, Int.reduceLT, Int.reduceLE, Int.reduceNeg, d1, d2]; with_reducible rfl) | ((with_reducible apply w_condT); · simp only [shA, eff, Int.reduceEq, Int.reduceAdd, Int.reduceSub, Nat.reduceBEq, Nat.reduceEqDiff, reduceCtorEq, Nat.reduceAdd, Nat.reduceSub, Nat.reduceMul, Nat.reduceLeDiff, Int.reduceToNat, Int.reduceLT, Int.reduceLE, Int.reduceNeg, d1, d2]) | ((with_reducible apply w_condF); · simp only [shA, eff, Int.reduceEq, Int.reduceAdd, Int.reduceSub, Nat.reduceBEq, Nat.reduceEqDiff, reduceCtorEq, Nat.reduceAdd, Nat.reduceSub, Nat.reduceMul, Nat.reduceLeDiff, Int.reduceToNat, Int.reduceLT, Int.reduceLE, Int.reduceNeg, d1, d2]) | ((with_reducible apply w_condTE); · simp only [shA, eff, Int.reduceEq, Int.reduceAdd, Int.reduceSub, Nat.reduceBEq, Nat.reduceEqDiff, reduceCtorEq, Nat.reduceAdd, Nat.reduceSub, Nat.reduceMul, Nat.reduceLeDiff, Int.reduceToNat, Int.reduceLT, Int.reduceLE, Int.reduceNeg, d1, d2]) | ((with_reducible apply w_condFE); · simp only [shA, eff, Int.reduceEq, Int.reduceAdd, Int.reduceSub, Nat.reduceBEq, Nat.reduceEqDiff, reduceCtorEq, Nat.reduceAdd, Nat.reduceSub, Nat.reduceMul, Nat.reduceLeDiff, Int.reduceToNat, Int.reduceLT, Int.reduceLE, Int.reduceNeg, d1, d2]) | (with_reducible apply q_then) | (with_reducible apply q_blockN) | (with_reducible apply q_blockR) | (with_reducible apply q_thenR) | (with_reducible apply q_thenX) | (with_reducible apply q_blockX) | ((with_reducible apply q_blockY); · rfl))
      simp [Post0, ansW, resT, SRes.get, ES.fs, ES.kill, has, drp, seqO, nbeq, lk, I, S, TV.ids3, TV.ids2, TV.ids1, TV.ids0, TV.ren3, TV.ren2, TV.ren1, TV.ren0, F_moraineref03_Order, h1, h2]
    · have d2 := decide_F h2
      repeat (first | (with_reducible apply w_unr) | (with_reducible apply w_assoc) | (with_reducible apply w_skip) | (with_reducible apply w_ret) | (with_reducible apply w_retE) | (with_reducible apply w_skipE) | (with_reducible apply w_exit) | (with_reducible apply w_exitE) | (with_reducible apply w_block) | (with_reducible apply w_blockE) | ((with_reducible apply w_reg); · simp only [shA, eff, Int.reduceEq, Int.reduceAdd, Int.reduceSub, Nat.reduceBEq, Nat.reduceEqDiff, reduceCtorEq, Nat.reduceAdd, Nat.reduceSub, Nat.reduceMul, Nat.reduceLeDiff, Int.reduceToNat, Int.reduceLT, Int.reduceLE, Int.reduceNeg, d1, d2]; with_reducible rfl) | ((with_reducible apply w_regE); · simp only [shA, eff, Int.reduceEq, Int.reduceAdd, Int.reduceSub, Nat.reduceBEq, Nat.reduceEqDiff, reduceCtorEq, Nat.reduceAdd, Nat.reduceSub, Nat.reduceMul, Nat.reduceLeDiff, Int.reduceToNat, Int.reduceLT, Int.reduceLE, Int.reduceNeg, d1, d2]; with_reducible rfl) | ((with_reducible apply w_condT); · simp only [shA, eff, Int.reduceEq, Int.reduceAdd, Int.reduceSub, Nat.reduceBEq, Nat.reduceEqDiff, reduceCtorEq, Nat.reduceAdd, Nat.reduceSub, Nat.reduceMul, Nat.reduceLeDiff, Int.reduceToNat, Int.reduceLT, Int.reduceLE, Int.reduceNeg, d1, d2]) | ((with_reducible apply w_condF); · simp only [shA, eff, Int.reduceEq, Int.reduceAdd, Int.reduceSub, Nat.reduceBEq, Nat.reduceEqDiff, reduceCtorEq, Nat.reduceAdd, Nat.reduceSub, Nat.reduceMul, Nat.reduceLeDiff, Int.reduceToNat, Int.reduceLT, Int.reduceLE, Int.reduceNeg, d1, d2]) | ((with_reducible apply w_condTE); · simp only [shA, eff, Int.reduceEq, Int.reduceAdd, Int.reduceSub, Nat.reduceBEq, Nat.reduceEqDiff, reduceCtorEq, Nat.reduceAdd, Nat.reduceSub, Nat.reduceMul, Nat.reduceLeDiff, Int.reduceToNat, Int.reduceLT, Int.reduceLE, Int.reduceNeg, d1, d2]) | ((with_reducible apply w_condFE); · simp only [shA, eff, Int.reduceEq, Int.reduceAdd, Int.reduceSub, Nat.reduceBEq, Nat.reduceEqDiff, reduceCtorEq, Nat.reduceAdd, Nat.reduceSub, Nat.reduceMul, Nat.reduceLeDiff, Int.reduceToNat, Int.reduceLT, Int.reduceLE, Int.reduceNeg, d1, d2]) | (with_reducible apply q_then) | (with_reducible apply q_blockN) | (with_reducible apply q_blockR) | (with_reducible apply q_thenR) | (with_reducible apply q_thenX) | (with_reducible apply q_blockX) | ((with_reducible apply q_blockY); · rfl))
      simp [Post0, ansW, resT, SRes.get, ES.fs, ES.kill, has, drp, seqO, nbeq, lk, I, S, TV.ids3, TV.ids2, TV.ids1, TV.ids0, TV.ren3, TV.ren2, TV.ren1, TV.ren0, F_moraineref03_Order, h1, h2]
/-- Which of n things a raw number speaks of. -/
def pickI (c n : Int) : Int := (if c < 0 then -(c + 1) else c).tmod n
theorem pick_ok (g : Sh.Glob) (c n : Int) (hc0 : -9223372036854775808 ≤ c) (hc1 : c ≤ 9223372036854775807) (hn : n ≠ 0) : SCalls Tryd.prog g 34 [I c, I n] [] (I (pickI c n)) [] := by
  refine call_of0 hmix tf_morainelaw03_pick rfl ?_
  have hr := fun (a : Int) => bin_rem Tryd.prog 3 .i64 a n hn
  unfold pickI
  by_cases h : c < 0
  · have d1 := decide_T h
    have w1 : IntKind.i64.wrap (c + 1) = c + 1 := wrap64 (by omega) (by omega)
    have w2 : IntKind.i64.wrap (0 - (c + 1)) = -(c + 1) := by rw [wrap64 (by omega) (by omega)]; omega
    repeat (first | (with_reducible apply w_unr) | (with_reducible apply w_assoc) | (with_reducible apply w_skip) | (with_reducible apply w_ret) | (with_reducible apply w_retE) | (with_reducible apply w_skipE) | (with_reducible apply w_exit) | (with_reducible apply w_exitE) | (with_reducible apply w_block) | (with_reducible apply w_blockE) | ((with_reducible apply w_reg); · simp only [shA, eff, Int.reduceEq, Int.reduceAdd, Int.reduceSub, Nat.reduceBEq, Nat.reduceEqDiff, reduceCtorEq, Nat.reduceAdd, Nat.reduceSub, Nat.reduceMul, Nat.reduceLeDiff, Int.reduceToNat, Int.reduceLT, Int.reduceLE, Int.reduceNeg, d1, hr, w1, w2]; with_reducible rfl) | ((with_reducible apply w_regE); · simp only [shA, eff, Int.reduceEq, Int.reduceAdd, Int.reduceSub, Nat.reduceBEq, Nat.reduceEqDiff, reduceCtorEq, Nat.reduceAdd, Nat.reduceSub, Nat.reduceMul, Nat.reduceLeDiff, Int.reduceToNat, Int.reduceLT, Int.reduceLE, Int.reduceNeg, d1, hr, w1, w2]; with_reducible rfl) | ((with_reducible apply w_condT); · simp only [shA, eff, Int.reduceEq, Int.reduceAdd, Int.reduceSub, Nat.reduceBEq, Nat.reduceEqDiff, reduceCtorEq, Nat.reduceAdd, Nat.reduceSub, Nat.reduceMul, Nat.reduceLeDiff, Int.reduceToNat, Int.reduceLT, Int.reduceLE, Int.reduceNeg, d1, hr, w1, w2]) | ((with_reducible apply w_condF); · simp only [shA, eff, Int.reduceEq, Int.reduceAdd, Int.reduceSub, Nat.reduceBEq, Nat.reduceEqDiff, reduceCtorEq, Nat.reduceAdd, Nat.reduceSub, Nat.reduceMul, Nat.reduceLeDiff, Int.reduceToNat, Int.reduceLT, Int.reduceLE, Int.reduceNeg, d1, hr, w1, w2]) | ((with_reducible apply w_condTE); · simp only [shA, eff, Int.reduceEq, Int.reduceAdd, Int.reduceSub, Nat.reduceBEq, Nat.reduceEqDiff, reduceCtorEq, Nat.reduceAdd, Nat.reduceSub, Nat.reduceMul, Nat.reduceLeDiff, Int.reduceToNat, Int.reduceLT, Int.reduceLE, Int.reduceNeg, d1, hr, w1, w2]) | ((with_reducible apply w_condFE); · simp only [shA, eff, Int.reduceEq, Int.reduceAdd, Int.reduceSub, Nat.reduceBEq, Nat.reduceEqDiff, reduceCtorEq, Nat.reduceAdd, Nat.reduceSub, Nat.reduceMul, Nat.reduceLeDiff, Int.reduceToNat, Int.reduceLT, Int.reduceLE, Int.reduceNeg, d1, hr, w1, w2]) | (with_reducible apply q_then) | (with_reducible apply q_blockN) | (with_reducible apply q_blockR) | (with_reducible apply q_thenR) | (with_reducible apply q_thenX) | (with_reducible apply q_blockX) | ((with_reducible apply q_blockY); · rfl))
    simp [Post0, ansW, resT, SRes.get, ES.fs, ES.kill, has, drp, seqO, nbeq, lk, I, S, TV.ids3, TV.ids2, TV.ids1, TV.ids0, TV.ren3, TV.ren2, TV.ren1, TV.ren0, F_morainelaw03_pick, h]
  · have d1 := decide_F h
    repeat (first | (with_reducible apply w_unr) | (with_reducible apply w_assoc) | (with_reducible apply w_skip) | (with_reducible apply w_ret) | (with_reducible apply w_retE) | (with_reducible apply w_skipE) | (with_reducible apply w_exit) | (with_reducible apply w_exitE) | (with_reducible apply w_block) | (with_reducible apply w_blockE) | ((with_reducible apply w_reg); · simp only [shA, eff, Int.reduceEq, Int.reduceAdd, Int.reduceSub, Nat.reduceBEq, Nat.reduceEqDiff, reduceCtorEq, Nat.reduceAdd, Nat.reduceSub, Nat.reduceMul, Nat.reduceLeDiff, Int.reduceToNat, Int.reduceLT, Int.reduceLE, Int.reduceNeg, d1, hr]; with_reducible rfl) | ((with_reducible apply w_regE); · simp only [shA, eff, Int.reduceEq, Int.reduceAdd, Int.reduceSub, Nat.reduceBEq, Nat.reduceEqDiff, reduceCtorEq, Nat.reduceAdd, Nat.reduceSub, Nat.reduceMul, Nat.reduceLeDiff, Int.reduceToNat, Int.reduceLT, Int.reduceLE, Int.reduceNeg, d1, hr]; with_reducible rfl) | ((with_reducible apply w_condT); · simp only [shA, eff, Int.reduceEq, Int.reduceAdd, Int.reduceSub, Nat.reduceBEq, Nat.reduceEqDiff, reduceCtorEq, Nat.reduceAdd, Nat.reduceSub, Nat.reduceMul, Nat.reduceLeDiff, Int.reduceToNat, Int.reduceLT, Int.reduceLE, Int.reduceNeg, d1, hr]) | ((with_reducible apply w_condF); · simp only [shA, eff, Int.reduceEq, Int.reduceAdd, Int.reduceSub, Nat.reduceBEq, Nat.reduceEqDiff, reduceCtorEq, Nat.reduceAdd, Nat.reduceSub, Nat.reduceMul, Nat.reduceLeDiff, Int.reduceToNat, Int.reduceLT, Int.reduceLE, Int.reduceNeg, d1, hr]) | ((with_reducible apply w_condTE); · simp only [shA, eff, Int.reduceEq, Int.reduceAdd, Int.reduceSub, Nat.reduceBEq, Nat.reduceEqDiff, reduceCtorEq, Nat.reduceAdd, Nat.reduceSub, Nat.reduceMul, Nat.reduceLeDiff, Int.reduceToNat, Int.reduceLT, Int.reduceLE, Int.reduceNeg, d1, hr]) | ((with_reducible apply w_condFE); · simp only [shA, eff, Int.reduceEq, Int.reduceAdd, Int.reduceSub, Nat.reduceBEq, Nat.reduceEqDiff, reduceCtorEq, Nat.reduceAdd, Nat.reduceSub, Nat.reduceMul, Nat.reduceLeDiff, Int.reduceToNat, Int.reduceLT, Int.reduceLE, Int.reduceNeg, d1, hr]) | (with_reducible apply q_then) | (with_reducible apply q_blockN) | (with_reducible apply q_blockR) | (with_reducible apply q_thenR) | (with_reducible apply q_thenX) | (with_reducible apply q_blockX) | ((with_reducible apply q_blockY); · rfl))
    simp [Post0, ansW, resT, SRes.get, ES.fs, ES.kill, has, drp, seqO, nbeq, lk, I, S, TV.ids3, TV.ids2, TV.ids1, TV.ids0, TV.ren3, TV.ren2, TV.ren1, TV.ren0, F_morainelaw03_pick, h]
end Go.Proofs.YtdlolkogifigpaaDoor
end

section
/- The document's Sign, from the second byte on. No statement of the program is proved here. -/
namespace Go.Proofs.YtdlolkogifigpaaDoor
open Go Go.RowKit Go.Mor Go.Sh Go.Sh.Cd1
set_option maxRecDepth 100000
set_option maxHeartbeats 8000000
theorem u8_lt (b : UInt8) : b.toNat < 256 := b.toNat_lt
theorem wr3 : IntKind.i64.wrap 3 = 3 := rfl
theorem wr4 : IntKind.i64.wrap 4 = 4 := rfl
theorem wr5 : IntKind.i64.wrap 5 = 5 := rfl
/-- What Sign does from the second byte on. -/
def signTail (g : Sh.Glob) (l : List UInt8) (n low high r : Int) : Prop :=
  ∀ x : List (Nat × TV), (x = [] ∨ x = [(49, .pv (.v (.bool false)))]) → swp Tryd.prog g (c_moraineref03_Sign_26.seq ((SCode.cond (Arg.tmp 62) (c_moraineref03_Sign_27.seq SCode.ret) SCode.skip).seq ((c_moraineref03_Sign_28.seq (SCode.block 1 c_moraineref03_Sign_33.loop)).seq (c_moraineref03_Sign_34.seq SCode.ret)))) (Post0 [SRes.tmp 2] (I r)) ⟨(0, S (str l)) :: (4, I n) :: (5, I low) :: (6, I high) :: x, [], [], []⟩
theorem tail2_lo (g : Sh.Glob) (l : List UInt8) (low high : Int) (b1 : UInt8) (e1 : l[1]? = some b1) (h : (b1.toNat : Int) < low) : signTail g l 2 low high 0 := by
  have hw1 := wrap64 (x := (b1.toNat : Int)) (by have := u8_lt b1; omega) (by have := u8_lt b1; omega)
  have f1 := decide_T (p := ((b1.toNat : Int) < low)) (by omega)
  rintro x (rfl | rfl)
  all_goals (repeat (first | (with_reducible apply w_unr) | (with_reducible apply w_assoc) | (with_reducible apply w_skip) | (with_reducible apply w_ret) | (with_reducible apply w_retE) | (with_reducible apply w_skipE) | (with_reducible apply w_exit) | (with_reducible apply w_exitE) | (with_reducible apply w_block) | (with_reducible apply w_blockE) | ((with_reducible apply w_reg); · simp only [shA, eff, Int.reduceEq, Int.reduceAdd, Int.reduceSub, Nat.reduceBEq, Nat.reduceEqDiff, reduceCtorEq, Nat.reduceAdd, Nat.reduceSub, Nat.reduceMul, Nat.reduceLeDiff, Int.reduceToNat, Int.reduceLT, Int.reduceLE, Int.reduceNeg, wr3, wr4, wr5, e1, hw1, f1]; with_reducible rfl) | ((with_reducible apply w_regE); · simp only [shA, eff, Int.reduceEq, Int.reduceAdd, Int.reduceSub, Nat.reduceBEq, Nat.reduceEqDiff, reduceCtorEq, Nat.reduceAdd, Nat.reduceSub, Nat.reduceMul, Nat.reduceLeDiff, Int.reduceToNat, Int.reduceLT, Int.reduceLE, Int.reduceNeg, wr3, wr4, wr5, e1, hw1, f1]; with_reducible rfl) | ((with_reducible apply w_condT); · simp only [shA, eff, Int.reduceEq, Int.reduceAdd, Int.reduceSub, Nat.reduceBEq, Nat.reduceEqDiff, reduceCtorEq, Nat.reduceAdd, Nat.reduceSub, Nat.reduceMul, Nat.reduceLeDiff, Int.reduceToNat, Int.reduceLT, Int.reduceLE, Int.reduceNeg, wr3, wr4, wr5, e1, hw1, f1]) | ((with_reducible apply w_condF); · simp only [shA, eff, Int.reduceEq, Int.reduceAdd, Int.reduceSub, Nat.reduceBEq, Nat.reduceEqDiff, reduceCtorEq, Nat.reduceAdd, Nat.reduceSub, Nat.reduceMul, Nat.reduceLeDiff, Int.reduceToNat, Int.reduceLT, Int.reduceLE, Int.reduceNeg, wr3, wr4, wr5, e1, hw1, f1]) | ((with_reducible apply w_condTE); · simp only [shA, eff, Int.reduceEq, Int.reduceAdd, Int.reduceSub, Nat.reduceBEq, Nat.reduceEqDiff, reduceCtorEq, Nat.reduceAdd, Nat.reduceSub, Nat.reduceMul, Nat.reduceLeDiff, Int.reduceToNat, Int.reduceLT, Int.reduceLE, Int.reduceNeg, wr3, wr4, wr5, e1, hw1, f1]) | ((with_reducible apply w_condFE); · simp only [shA, eff, Int.reduceEq, Int.reduceAdd, Int.reduceSub, Nat.reduceBEq, Nat.reduceEqDiff, reduceCtorEq, Nat.reduceAdd, Nat.reduceSub, Nat.reduceMul, Nat.reduceLeDiff, Int.reduceToNat, Int.reduceLT, Int.reduceLE, Int.reduceNeg, wr3, wr4, wr5, e1, hw1, f1]) | (with_reducible apply q_then) | (with_reducible apply q_blockN) | (with_reducible apply q_blockR) | (with_reducible apply q_thenR) | (with_reducible apply q_thenX) | (with_reducible apply q_blockX) | ((with_reducible apply q_blockY); · rfl)))
  all_goals simp [Post0, ansW, resT, SRes.get, ES.fs, ES.kill, has, drp, seqO, nbeq, lk, I, S, TV.ids3, TV.ids2, TV.ids1, TV.ids0, TV.ren3, TV.ren2, TV.ren1, TV.ren0, ]
theorem tail2_hi (g : Sh.Glob) (l : List UInt8) (low high : Int) (b1 : UInt8) (e1 : l[1]? = some b1) (h : ¬ (b1.toNat : Int) < low) (h' : high < (b1.toNat : Int)) : signTail g l 2 low high 0 := by
  have hw1 := wrap64 (x := (b1.toNat : Int)) (by have := u8_lt b1; omega) (by have := u8_lt b1; omega)
  have f1 := decide_F (p := ((b1.toNat : Int) < low)) (by omega)
  have f2 := decide_T (p := (high < (b1.toNat : Int))) (by omega)
  rintro x (rfl | rfl)
  all_goals (repeat (first | (with_reducible apply w_unr) | (with_reducible apply w_assoc) | (with_reducible apply w_skip) | (with_reducible apply w_ret) | (with_reducible apply w_retE) | (with_reducible apply w_skipE) | (with_reducible apply w_exit) | (with_reducible apply w_exitE) | (with_reducible apply w_block) | (with_reducible apply w_blockE) | ((with_reducible apply w_reg); · simp only [shA, eff, Int.reduceEq, Int.reduceAdd, Int.reduceSub, Nat.reduceBEq, Nat.reduceEqDiff, reduceCtorEq, Nat.reduceAdd, Nat.reduceSub, Nat.reduceMul, Nat.reduceLeDiff, Int.reduceToNat, Int.reduceLT, Int.reduceLE, Int.reduceNeg, wr3, wr4, wr5, e1, hw1, f1, f2]; with_reducible rfl) | ((with_reducible apply w_regE); · simp only [shA, eff, Int.reduceEq, Int.reduceAdd, Int.reduceSub, Nat.reduceBEq, Nat.reduceEqDiff, reduceCtorEq, Nat.reduceAdd, Nat.reduceSub, Nat.reduceMul, Nat.reduceLeDiff, Int.reduceToNat, Int.reduceLT, Int.reduceLE, Int.reduceNeg, wr3, wr4, wr5, e1, hw1, f1, f2]; with_reducible rfl) | ((with_reducible apply w_condT); · simp only [shA, eff, Int.reduceEq, Int.reduceAdd, Int.reduceSub, Nat.reduceBEq, Nat.reduceEqDiff, reduceCtorEq, Nat.reduceAdd, Nat.reduceSub, Nat.reduceMul, Nat.reduceLeDiff, Int.reduceToNat, Int.reduceLT, Int.reduceLE, Int.reduceNeg, wr3, wr4, wr5, e1, hw1, f1, f2]) | ((with_reducible apply w_condF); · simp only [shA, eff, Int.reduceEq, Int.reduceAdd, Int.reduceSub, Nat.reduceBEq, Nat.reduceEqDiff, reduceCtorEq, Nat.reduceAdd, Nat.reduceSub, Nat.reduceMul, Nat.reduceLeDiff, Int.reduceToNat, Int.reduceLT, Int.reduceLE, Int.reduceNeg, wr3, wr4, wr5, e1, hw1, f1, f2]) | ((with_reducible apply w_condTE); · simp only [shA, eff, Int.reduceEq, Int.reduceAdd, Int.reduceSub, Nat.reduceBEq, Nat.reduceEqDiff, reduceCtorEq, Nat.reduceAdd, Nat.reduceSub, Nat.reduceMul, Nat.reduceLeDiff, Int.reduceToNat, Int.reduceLT, Int.reduceLE, Int.reduceNeg, wr3, wr4, wr5, e1, hw1, f1, f2]) | ((with_reducible apply w_condFE); · simp only [shA, eff, Int.reduceEq, Int.reduceAdd, Int.reduceSub, Nat.reduceBEq, Nat.reduceEqDiff, reduceCtorEq, Nat.reduceAdd, Nat.reduceSub, Nat.reduceMul, Nat.reduceLeDiff, Int.reduceToNat, Int.reduceLT, Int.reduceLE, Int.reduceNeg, wr3, wr4, wr5, e1, hw1, f1, f2]) | (with_reducible apply q_then) | (with_reducible apply q_blockN) | (with_reducible apply q_blockR) | (with_reducible apply q_thenR) | (with_reducible apply q_thenX) | (with_reducible apply q_blockX) | ((with_reducible apply q_blockY); · rfl)))
  all_goals simp [Post0, ansW, resT, SRes.get, ES.fs, ES.kill, has, drp, seqO, nbeq, lk, I, S, TV.ids3, TV.ids2, TV.ids1, TV.ids0, TV.ren3, TV.ren2, TV.ren1, TV.ren0, ]
theorem tail2_ok (g : Sh.Glob) (l : List UInt8) (low high : Int) (b1 : UInt8) (e1 : l[1]? = some b1) (h : ¬ (b1.toNat : Int) < low) (h' : ¬ high < (b1.toNat : Int)) : signTail g l 2 low high 2 := by
  have hw1 := wrap64 (x := (b1.toNat : Int)) (by have := u8_lt b1; omega) (by have := u8_lt b1; omega)
  have f1 := decide_F (p := ((b1.toNat : Int) < low)) (by omega)
  have f2 := decide_F (p := (high < (b1.toNat : Int))) (by omega)
  rintro x (rfl | rfl)
  all_goals (repeat (first | (with_reducible apply w_unr) | (with_reducible apply w_assoc) | (with_reducible apply w_skip) | (with_reducible apply w_ret) | (with_reducible apply w_retE) | (with_reducible apply w_skipE) | (with_reducible apply w_exit) | (with_reducible apply w_exitE) | (with_reducible apply w_block) | (with_reducible apply w_blockE) | ((with_reducible apply w_reg); · simp only [shA, eff, Int.reduceEq, Int.reduceAdd, Int.reduceSub, Nat.reduceBEq, Nat.reduceEqDiff, reduceCtorEq, Nat.reduceAdd, Nat.reduceSub, Nat.reduceMul, Nat.reduceLeDiff, Int.reduceToNat, Int.reduceLT, Int.reduceLE, Int.reduceNeg, wr3, wr4, wr5, e1, hw1, f1, f2]; with_reducible rfl) | ((with_reducible apply w_regE); · simp only [shA, eff, Int.reduceEq, Int.reduceAdd, Int.reduceSub, Nat.reduceBEq, Nat.reduceEqDiff, reduceCtorEq, Nat.reduceAdd, Nat.reduceSub, Nat.reduceMul, Nat.reduceLeDiff, Int.reduceToNat, Int.reduceLT, Int.reduceLE, Int.reduceNeg, wr3, wr4, wr5, e1, hw1, f1, f2]; with_reducible rfl) | ((with_reducible apply w_condT); · simp only [shA, eff, Int.reduceEq, Int.reduceAdd, Int.reduceSub, Nat.reduceBEq, Nat.reduceEqDiff, reduceCtorEq, Nat.reduceAdd, Nat.reduceSub, Nat.reduceMul, Nat.reduceLeDiff, Int.reduceToNat, Int.reduceLT, Int.reduceLE, Int.reduceNeg, wr3, wr4, wr5, e1, hw1, f1, f2]) | ((with_reducible apply w_condF); · simp only [shA, eff, Int.reduceEq, Int.reduceAdd, Int.reduceSub, Nat.reduceBEq, Nat.reduceEqDiff, reduceCtorEq, Nat.reduceAdd, Nat.reduceSub, Nat.reduceMul, Nat.reduceLeDiff, Int.reduceToNat, Int.reduceLT, Int.reduceLE, Int.reduceNeg, wr3, wr4, wr5, e1, hw1, f1, f2]) | ((with_reducible apply w_condTE); · simp only [shA, eff, Int.reduceEq, Int.reduceAdd, Int.reduceSub, Nat.reduceBEq, Nat.reduceEqDiff, reduceCtorEq, Nat.reduceAdd, Nat.reduceSub, Nat.reduceMul, Nat.reduceLeDiff, Int.reduceToNat, Int.reduceLT, Int.reduceLE, Int.reduceNeg, wr3, wr4, wr5, e1, hw1, f1, f2]) | ((with_reducible apply w_condFE); · simp only [shA, eff, Int.reduceEq, Int.reduceAdd, Int.reduceSub, Nat.reduceBEq, Nat.reduceEqDiff, reduceCtorEq, Nat.reduceAdd, Nat.reduceSub, Nat.reduceMul, Nat.reduceLeDiff, Int.reduceToNat, Int.reduceLT, Int.reduceLE, Int.reduceNeg, wr3, wr4, wr5, e1, hw1, f1, f2]) | (with_reducible apply q_then) | (with_reducible apply q_blockN) | (with_reducible apply q_blockR) | (with_reducible apply q_thenR) | (with_reducible apply q_thenX) | (with_reducible apply q_blockX) | ((with_reducible apply q_blockY); · rfl)))
  all_goals (refine w_unrollE 1 ?_)
  all_goals (repeat (first | (with_reducible apply w_unr) | (with_reducible apply w_assoc) | (with_reducible apply w_skip) | (with_reducible apply w_ret) | (with_reducible apply w_retE) | (with_reducible apply w_skipE) | (with_reducible apply w_exit) | (with_reducible apply w_exitE) | (with_reducible apply w_block) | (with_reducible apply w_blockE) | ((with_reducible apply w_reg); · simp only [shA, eff, Int.reduceEq, Int.reduceAdd, Int.reduceSub, Nat.reduceBEq, Nat.reduceEqDiff, reduceCtorEq, Nat.reduceAdd, Nat.reduceSub, Nat.reduceMul, Nat.reduceLeDiff, Int.reduceToNat, Int.reduceLT, Int.reduceLE, Int.reduceNeg, wr3, wr4, wr5, e1, hw1, f1, f2]; with_reducible rfl) | ((with_reducible apply w_regE); · simp only [shA, eff, Int.reduceEq, Int.reduceAdd, Int.reduceSub, Nat.reduceBEq, Nat.reduceEqDiff, reduceCtorEq, Nat.reduceAdd, Nat.reduceSub, Nat.reduceMul, Nat.reduceLeDiff, Int.reduceToNat, Int.reduceLT, Int.reduceLE, Int.reduceNeg, wr3, wr4, wr5, e1, hw1, f1, f2]; with_reducible rfl) | ((with_reducible apply w_condT); · simp only [shA, eff, Int.reduceEq, Int.reduceAdd, Int.reduceSub, Nat.reduceBEq, Nat.reduceEqDiff, reduceCtorEq, Nat.reduceAdd, Nat.reduceSub, Nat.reduceMul, Nat.reduceLeDiff, Int.reduceToNat, Int.reduceLT, Int.reduceLE, Int.reduceNeg, wr3, wr4, wr5, e1, hw1, f1, f2]) | ((with_reducible apply w_condF); · simp only [shA, eff, Int.reduceEq, Int.reduceAdd, Int.reduceSub, Nat.reduceBEq, Nat.reduceEqDiff, reduceCtorEq, Nat.reduceAdd, Nat.reduceSub, Nat.reduceMul, Nat.reduceLeDiff, Int.reduceToNat, Int.reduceLT, Int.reduceLE, Int.reduceNeg, wr3, wr4, wr5, e1, hw1, f1, f2]) | ((with_reducible apply w_condTE); · simp only [shA, eff, Int.reduceEq, Int.reduceAdd, Int.reduceSub, Nat.reduceBEq, Nat.reduceEqDiff, reduceCtorEq, Nat.reduceAdd, Nat.reduceSub, Nat.reduceMul, Nat.reduceLeDiff, Int.reduceToNat, Int.reduceLT, Int.reduceLE, Int.reduceNeg, wr3, wr4, wr5, e1, hw1, f1, f2]) | ((with_reducible apply w_condFE); · simp only [shA, eff, Int.reduceEq, Int.reduceAdd, Int.reduceSub, Nat.reduceBEq, Nat.reduceEqDiff, reduceCtorEq, Nat.reduceAdd, Nat.reduceSub, Nat.reduceMul, Nat.reduceLeDiff, Int.reduceToNat, Int.reduceLT, Int.reduceLE, Int.reduceNeg, wr3, wr4, wr5, e1, hw1, f1, f2]) | (with_reducible apply q_then) | (with_reducible apply q_blockN) | (with_reducible apply q_blockR) | (with_reducible apply q_thenR) | (with_reducible apply q_thenX) | (with_reducible apply q_blockX) | ((with_reducible apply q_blockY); · rfl)))
  all_goals simp [Post0, ansW, resT, SRes.get, ES.fs, ES.kill, has, drp, seqO, nbeq, lk, I, S, TV.ids3, TV.ids2, TV.ids1, TV.ids0, TV.ren3, TV.ren2, TV.ren1, TV.ren0, ]
theorem tail3_lo (g : Sh.Glob) (l : List UInt8) (low high : Int) (b1 : UInt8) (e1 : l[1]? = some b1) (h : (b1.toNat : Int) < low) : signTail g l 3 low high 0 := by
  have hw1 := wrap64 (x := (b1.toNat : Int)) (by have := u8_lt b1; omega) (by have := u8_lt b1; omega)
  have f1 := decide_T (p := ((b1.toNat : Int) < low)) (by omega)
  rintro x (rfl | rfl)
  all_goals (repeat (first | (with_reducible apply w_unr) | (with_reducible apply w_assoc) | (with_reducible apply w_skip) | (with_reducible apply w_ret) | (with_reducible apply w_retE) | (with_reducible apply w_skipE) | (with_reducible apply w_exit) | (with_reducible apply w_exitE) | (with_reducible apply w_block) | (with_reducible apply w_blockE) | ((with_reducible apply w_reg); · simp only [shA, eff, Int.reduceEq, Int.reduceAdd, Int.reduceSub, Nat.reduceBEq, Nat.reduceEqDiff, reduceCtorEq, Nat.reduceAdd, Nat.reduceSub, Nat.reduceMul, Nat.reduceLeDiff, Int.reduceToNat, Int.reduceLT, Int.reduceLE, Int.reduceNeg, wr3, wr4, wr5, e1, hw1, f1]; with_reducible rfl) | ((with_reducible apply w_regE); · simp only [shA, eff, Int.reduceEq, Int.reduceAdd, Int.reduceSub, Nat.reduceBEq, Nat.reduceEqDiff, reduceCtorEq, Nat.reduceAdd, Nat.reduceSub, Nat.reduceMul, Nat.reduceLeDiff, Int.reduceToNat, Int.reduceLT, Int.reduceLE, Int.reduceNeg, wr3, wr4, wr5, e1, hw1, f1]; with_reducible rfl) | ((with_reducible apply w_condT); · simp only [shA, eff, Int.reduceEq, Int.reduceAdd, Int.reduceSub, Nat.reduceBEq, Nat.reduceEqDiff, reduceCtorEq, Nat.reduceAdd, Nat.reduceSub, Nat.reduceMul, Nat.reduceLeDiff, Int.reduceToNat, Int.reduceLT, Int.reduceLE, Int.reduceNeg, wr3, wr4, wr5, e1, hw1, f1]) | ((with_reducible apply w_condF); · simp only [shA, eff, Int.reduceEq, Int.reduceAdd, Int.reduceSub, Nat.reduceBEq, Nat.reduceEqDiff, reduceCtorEq, Nat.reduceAdd, Nat.reduceSub, Nat.reduceMul, Nat.reduceLeDiff, Int.reduceToNat, Int.reduceLT, Int.reduceLE, Int.reduceNeg, wr3, wr4, wr5, e1, hw1, f1]) | ((with_reducible apply w_condTE); · simp only [shA, eff, Int.reduceEq, Int.reduceAdd, Int.reduceSub, Nat.reduceBEq, Nat.reduceEqDiff, reduceCtorEq, Nat.reduceAdd, Nat.reduceSub, Nat.reduceMul, Nat.reduceLeDiff, Int.reduceToNat, Int.reduceLT, Int.reduceLE, Int.reduceNeg, wr3, wr4, wr5, e1, hw1, f1]) | ((with_reducible apply w_condFE); · simp only [shA, eff, Int.reduceEq, Int.reduceAdd, Int.reduceSub, Nat.reduceBEq, Nat.reduceEqDiff, reduceCtorEq, Nat.reduceAdd, Nat.reduceSub, Nat.reduceMul, Nat.reduceLeDiff, Int.reduceToNat, Int.reduceLT, Int.reduceLE, Int.reduceNeg, wr3, wr4, wr5, e1, hw1, f1]) | (with_reducible apply q_then) | (with_reducible apply q_blockN) | (with_reducible apply q_blockR) | (with_reducible apply q_thenR) | (with_reducible apply q_thenX) | (with_reducible apply q_blockX) | ((with_reducible apply q_blockY); · rfl)))
  all_goals simp [Post0, ansW, resT, SRes.get, ES.fs, ES.kill, has, drp, seqO, nbeq, lk, I, S, TV.ids3, TV.ids2, TV.ids1, TV.ids0, TV.ren3, TV.ren2, TV.ren1, TV.ren0, ]
theorem tail3_hi (g : Sh.Glob) (l : List UInt8) (low high : Int) (b1 : UInt8) (e1 : l[1]? = some b1) (h : ¬ (b1.toNat : Int) < low) (h' : high < (b1.toNat : Int)) : signTail g l 3 low high 0 := by
  have hw1 := wrap64 (x := (b1.toNat : Int)) (by have := u8_lt b1; omega) (by have := u8_lt b1; omega)
  have f1 := decide_F (p := ((b1.toNat : Int) < low)) (by omega)
  have f2 := decide_T (p := (high < (b1.toNat : Int))) (by omega)
  rintro x (rfl | rfl)
  all_goals (repeat (first | (with_reducible apply w_unr) | (with_reducible apply w_assoc) | (with_reducible apply w_skip) | (with_reducible apply w_ret) | (with_reducible apply w_retE) | (with_reducible apply w_skipE) | (with_reducible apply w_exit) | (with_reducible apply w_exitE) | (with_reducible apply w_block) | (with_reducible apply w_blockE) | ((with_reducible apply w_reg); · simp only [shA, eff, Int.reduceEq, Int.reduceAdd, Int.reduceSub, Nat.reduceBEq, Nat.reduceEqDiff, reduceCtorEq, Nat.reduceAdd, Nat.reduceSub, Nat.reduceMul, Nat.reduceLeDiff, Int.reduceToNat, Int.reduceLT, Int.reduceLE, Int.reduceNeg, wr3, wr4, wr5, e1, hw1, f1, f2]; with_reducible rfl) | ((with_reducible apply w_regE); · simp only [shA, eff, Int.reduceEq, Int.reduceAdd, Int.reduceSub, Nat.reduceBEq, Nat.reduceEqDiff, reduceCtorEq, Nat.reduceAdd, Nat.reduceSub, Nat.reduceMul, Nat.reduceLeDiff, Int.reduceToNat, Int.reduceLT, Int.reduceLE, Int.reduceNeg, wr3, wr4, wr5, e1, hw1, f1, f2]; with_reducible rfl) | ((with_reducible apply w_condT); · simp only [shA, eff, Int.reduceEq, Int.reduceAdd, Int.reduceSub, Nat.reduceBEq, Nat.reduceEqDiff, reduceCtorEq, Nat.reduceAdd, Nat.reduceSub, Nat.reduceMul, Nat.reduceLeDiff, Int.reduceToNat, Int.reduceLT, Int.reduceLE, Int.reduceNeg, wr3, wr4, wr5, e1, hw1, f1, f2]) | ((with_reducible apply w_condF); · simp only [shA, eff, Int.reduceEq, Int.reduceAdd, Int.reduceSub, Nat.reduceBEq, Nat.reduceEqDiff, reduceCtorEq, Nat.reduceAdd, Nat.reduceSub, Nat.reduceMul, Nat.reduceLeDiff, Int.reduceToNat, Int.reduceLT, Int.reduceLE, Int.reduceNeg, wr3, wr4, wr5, e1, hw1, f1, f2]) | ((with_reducible apply w_condTE); · simp only [shA, eff, Int.reduceEq, Int.reduceAdd, Int.reduceSub, Nat.reduceBEq, Nat.reduceEqDiff, reduceCtorEq, Nat.reduceAdd, Nat.reduceSub, Nat.reduceMul, Nat.reduceLeDiff, Int.reduceToNat, Int.reduceLT, Int.reduceLE, Int.reduceNeg, wr3, wr4, wr5, e1, hw1, f1, f2]) | ((with_reducible apply w_condFE); · simp only [shA, eff, Int.reduceEq, Int.reduceAdd, Int.reduceSub, Nat.reduceBEq, Nat.reduceEqDiff, reduceCtorEq, Nat.reduceAdd, Nat.reduceSub, Nat.reduceMul, Nat.reduceLeDiff, Int.reduceToNat, Int.reduceLT, Int.reduceLE, Int.reduceNeg, wr3, wr4, wr5, e1, hw1, f1, f2]) | (with_reducible apply q_then) | (with_reducible apply q_blockN) | (with_reducible apply q_blockR) | (with_reducible apply q_thenR) | (with_reducible apply q_thenX) | (with_reducible apply q_blockX) | ((with_reducible apply q_blockY); · rfl)))
  all_goals simp [Post0, ansW, resT, SRes.get, ES.fs, ES.kill, has, drp, seqO, nbeq, lk, I, S, TV.ids3, TV.ids2, TV.ids1, TV.ids0, TV.ren3, TV.ren2, TV.ren1, TV.ren0, ]
theorem tail3_lo2 (g : Sh.Glob) (l : List UInt8) (low high : Int) (b1 : UInt8) (e1 : l[1]? = some b1) (h : ¬ (b1.toNat : Int) < low) (h' : ¬ high < (b1.toNat : Int)) (b2 : UInt8) (e2 : l[2]? = some b2) (k : b2.toNat < 128) : signTail g l 3 low high 0 := by
  have hw1 := wrap64 (x := (b1.toNat : Int)) (by have := u8_lt b1; omega) (by have := u8_lt b1; omega)
  have f1 := decide_F (p := ((b1.toNat : Int) < low)) (by omega)
  have f2 := decide_F (p := (high < (b1.toNat : Int))) (by omega)
  have f3 := decide_T (p := ((b2.toNat : Int) < 128)) (by omega)
  rintro x (rfl | rfl)
  all_goals (repeat (first | (with_reducible apply w_unr) | (with_reducible apply w_assoc) | (with_reducible apply w_skip) | (with_reducible apply w_ret) | (with_reducible apply w_retE) | (with_reducible apply w_skipE) | (with_reducible apply w_exit) | (with_reducible apply w_exitE) | (with_reducible apply w_block) | (with_reducible apply w_blockE) | ((with_reducible apply w_reg); · simp only [shA, eff, Int.reduceEq, Int.reduceAdd, Int.reduceSub, Nat.reduceBEq, Nat.reduceEqDiff, reduceCtorEq, Nat.reduceAdd, Nat.reduceSub, Nat.reduceMul, Nat.reduceLeDiff, Int.reduceToNat, Int.reduceLT, Int.reduceLE, Int.reduceNeg, wr3, wr4, wr5, e1, hw1, e2, f1, f2, f3]; with_reducible rfl) | ((with_reducible apply w_regE); · simp only [shA, eff, Int.reduceEq, Int.reduceAdd, Int.reduceSub, Nat.reduceBEq, Nat.reduceEqDiff, reduceCtorEq, Nat.reduceAdd, Nat.reduceSub, Nat.reduceMul, Nat.reduceLeDiff, Int.reduceToNat, Int.reduceLT, Int.reduceLE, Int.reduceNeg, wr3, wr4, wr5, e1, hw1, e2, f1, f2, f3]; with_reducible rfl) | ((with_reducible apply w_condT); · simp only [shA, eff, Int.reduceEq, Int.reduceAdd, Int.reduceSub, Nat.reduceBEq, Nat.reduceEqDiff, reduceCtorEq, Nat.reduceAdd, Nat.reduceSub, Nat.reduceMul, Nat.reduceLeDiff, Int.reduceToNat, Int.reduceLT, Int.reduceLE, Int.reduceNeg, wr3, wr4, wr5, e1, hw1, e2, f1, f2, f3]) | ((with_reducible apply w_condF); · simp only [shA, eff, Int.reduceEq, Int.reduceAdd, Int.reduceSub, Nat.reduceBEq, Nat.reduceEqDiff, reduceCtorEq, Nat.reduceAdd, Nat.reduceSub, Nat.reduceMul, Nat.reduceLeDiff, Int.reduceToNat, Int.reduceLT, Int.reduceLE, Int.reduceNeg, wr3, wr4, wr5, e1, hw1, e2, f1, f2, f3]) | ((with_reducible apply w_condTE); · simp only [shA, eff, Int.reduceEq, Int.reduceAdd, Int.reduceSub, Nat.reduceBEq, Nat.reduceEqDiff, reduceCtorEq, Nat.reduceAdd, Nat.reduceSub, Nat.reduceMul, Nat.reduceLeDiff, Int.reduceToNat, Int.reduceLT, Int.reduceLE, Int.reduceNeg, wr3, wr4, wr5, e1, hw1, e2, f1, f2, f3]) | ((with_reducible apply w_condFE); · simp only [shA, eff, Int.reduceEq, Int.reduceAdd, Int.reduceSub, Nat.reduceBEq, Nat.reduceEqDiff, reduceCtorEq, Nat.reduceAdd, Nat.reduceSub, Nat.reduceMul, Nat.reduceLeDiff, Int.reduceToNat, Int.reduceLT, Int.reduceLE, Int.reduceNeg, wr3, wr4, wr5, e1, hw1, e2, f1, f2, f3]) | (with_reducible apply q_then) | (with_reducible apply q_blockN) | (with_reducible apply q_blockR) | (with_reducible apply q_thenR) | (with_reducible apply q_thenX) | (with_reducible apply q_blockX) | ((with_reducible apply q_blockY); · rfl)))
  all_goals (refine w_unrollE 2 ?_)
  all_goals (repeat (first | (with_reducible apply w_unr) | (with_reducible apply w_assoc) | (with_reducible apply w_skip) | (with_reducible apply w_ret) | (with_reducible apply w_retE) | (with_reducible apply w_skipE) | (with_reducible apply w_exit) | (with_reducible apply w_exitE) | (with_reducible apply w_block) | (with_reducible apply w_blockE) | ((with_reducible apply w_reg); · simp only [shA, eff, Int.reduceEq, Int.reduceAdd, Int.reduceSub, Nat.reduceBEq, Nat.reduceEqDiff, reduceCtorEq, Nat.reduceAdd, Nat.reduceSub, Nat.reduceMul, Nat.reduceLeDiff, Int.reduceToNat, Int.reduceLT, Int.reduceLE, Int.reduceNeg, wr3, wr4, wr5, e1, hw1, e2, f1, f2, f3]; with_reducible rfl) | ((with_reducible apply w_regE); · simp only [shA, eff, Int.reduceEq, Int.reduceAdd, Int.reduceSub, Nat.reduceBEq, Nat.reduceEqDiff, reduceCtorEq, Nat.reduceAdd, Nat.reduceSub, Nat.reduceMul, Nat.reduceLeDiff, Int.reduceToNat, Int.reduceLT, Int.reduceLE, Int.reduceNeg, wr3, wr4, wr5, e1, hw1, e2, f1, f2, f3]; with_reducible rfl) | ((with_reducible apply w_condT); · simp only [shA, eff, Int.reduceEq, Int.reduceAdd, Int.reduceSub, Nat.reduceBEq, Nat.reduceEqDiff, reduceCtorEq, Nat.reduceAdd, Nat.reduceSub, Nat.reduceMul, Nat.reduceLeDiff, Int.reduceToNat, Int.reduceLT, Int.reduceLE, Int.reduceNeg, wr3, wr4, wr5, e1, hw1, e2, f1, f2, f3]) | ((with_reducible apply w_condF); · simp only [shA, eff, Int.reduceEq, Int.reduceAdd, Int.reduceSub, Nat.reduceBEq, Nat.reduceEqDiff, reduceCtorEq, Nat.reduceAdd, Nat.reduceSub, Nat.reduceMul, Nat.reduceLeDiff, Int.reduceToNat, Int.reduceLT, Int.reduceLE, Int.reduceNeg, wr3, wr4, wr5, e1, hw1, e2, f1, f2, f3]) | ((with_reducible apply w_condTE); · simp only [shA, eff, Int.reduceEq, Int.reduceAdd, Int.reduceSub, Nat.reduceBEq, Nat.reduceEqDiff, reduceCtorEq, Nat.reduceAdd, Nat.reduceSub, Nat.reduceMul, Nat.reduceLeDiff, Int.reduceToNat, Int.reduceLT, Int.reduceLE, Int.reduceNeg, wr3, wr4, wr5, e1, hw1, e2, f1, f2, f3]) | ((with_reducible apply w_condFE); · simp only [shA, eff, Int.reduceEq, Int.reduceAdd, Int.reduceSub, Nat.reduceBEq, Nat.reduceEqDiff, reduceCtorEq, Nat.reduceAdd, Nat.reduceSub, Nat.reduceMul, Nat.reduceLeDiff, Int.reduceToNat, Int.reduceLT, Int.reduceLE, Int.reduceNeg, wr3, wr4, wr5, e1, hw1, e2, f1, f2, f3]) | (with_reducible apply q_then) | (with_reducible apply q_blockN) | (with_reducible apply q_blockR) | (with_reducible apply q_thenR) | (with_reducible apply q_thenX) | (with_reducible apply q_blockX) | ((with_reducible apply q_blockY); · rfl)))
  all_goals simp [Post0, ansW, resT, SRes.get, ES.fs, ES.kill, has, drp, seqO, nbeq, lk, I, S, TV.ids3, TV.ids2, TV.ids1, TV.ids0, TV.ren3, TV.ren2, TV.ren1, TV.ren0, ]
theorem tail3_hi2 (g : Sh.Glob) (l : List UInt8) (low high : Int) (b1 : UInt8) (e1 : l[1]? = some b1) (h : ¬ (b1.toNat : Int) < low) (h' : ¬ high < (b1.toNat : Int)) (b2 : UInt8) (e2 : l[2]? = some b2) (k : 191 < b2.toNat) : signTail g l 3 low high 0 := by
  have hw1 := wrap64 (x := (b1.toNat : Int)) (by have := u8_lt b1; omega) (by have := u8_lt b1; omega)
  have f1 := decide_F (p := ((b1.toNat : Int) < low)) (by omega)
  have f2 := decide_F (p := (high < (b1.toNat : Int))) (by omega)
  have f3 := decide_F (p := ((b2.toNat : Int) < 128)) (by omega)
  have f4 := decide_T (p := (191 < (b2.toNat : Int))) (by omega)
  rintro x (rfl | rfl)
  all_goals (repeat (first | (with_reducible apply w_unr) | (with_reducible apply w_assoc) | (with_reducible apply w_skip) | (with_reducible apply w_ret) | (with_reducible apply w_retE) | (with_reducible apply w_skipE) | (with_reducible apply w_exit) | (with_reducible apply w_exitE) | (with_reducible apply w_block) | (with_reducible apply w_blockE) | ((with_reducible apply w_reg); · simp only [shA, eff, Int.reduceEq, Int.reduceAdd, Int.reduceSub, Nat.reduceBEq, Nat.reduceEqDiff, reduceCtorEq, Nat.reduceAdd, Nat.reduceSub, Nat.reduceMul, Nat.reduceLeDiff, Int.reduceToNat, Int.reduceLT, Int.reduceLE, Int.reduceNeg, wr3, wr4, wr5, e1, hw1, e2, f1, f2, f3, f4]; with_reducible rfl) | ((with_reducible apply w_regE); · simp only [shA, eff, Int.reduceEq, Int.reduceAdd, Int.reduceSub, Nat.reduceBEq, Nat.reduceEqDiff, reduceCtorEq, Nat.reduceAdd, Nat.reduceSub, Nat.reduceMul, Nat.reduceLeDiff, Int.reduceToNat, Int.reduceLT, Int.reduceLE, Int.reduceNeg, wr3, wr4, wr5, e1, hw1, e2, f1, f2, f3, f4]; with_reducible rfl) | ((with_reducible apply w_condT); · simp only [shA, eff, Int.reduceEq, Int.reduceAdd, Int.reduceSub, Nat.reduceBEq, Nat.reduceEqDiff, reduceCtorEq, Nat.reduceAdd, Nat.reduceSub, Nat.reduceMul, Nat.reduceLeDiff, Int.reduceToNat, Int.reduceLT, Int.reduceLE, Int.reduceNeg, wr3, wr4, wr5, e1, hw1, e2, f1, f2, f3, f4]) | ((with_reducible apply w_condF); · simp only [shA, eff, Int.reduceEq, Int.reduceAdd, Int.reduceSub, Nat.reduceBEq, Nat.reduceEqDiff, reduceCtorEq, Nat.reduceAdd, Nat.reduceSub, Nat.reduceMul, Nat.reduceLeDiff, Int.reduceToNat, Int.reduceLT, Int.reduceLE, Int.reduceNeg, wr3, wr4, wr5, e1, hw1, e2, f1, f2, f3, f4]) | ((with_reducible apply w_condTE); · simp only [shA, eff, Int.reduceEq, Int.reduceAdd, Int.reduceSub, Nat.reduceBEq, Nat.reduceEqDiff, reduceCtorEq, Nat.reduceAdd, Nat.reduceSub, Nat.reduceMul, Nat.reduceLeDiff, Int.reduceToNat, Int.reduceLT, Int.reduceLE, Int.reduceNeg, wr3, wr4, wr5, e1, hw1, e2, f1, f2, f3, f4]) | ((with_reducible apply w_condFE); · simp only [shA, eff, Int.reduceEq, Int.reduceAdd, Int.reduceSub, Nat.reduceBEq, Nat.reduceEqDiff, reduceCtorEq, Nat.reduceAdd, Nat.reduceSub, Nat.reduceMul, Nat.reduceLeDiff, Int.reduceToNat, Int.reduceLT, Int.reduceLE, Int.reduceNeg, wr3, wr4, wr5, e1, hw1, e2, f1, f2, f3, f4]) | (with_reducible apply q_then) | (with_reducible apply q_blockN) | (with_reducible apply q_blockR) | (with_reducible apply q_thenR) | (with_reducible apply q_thenX) | (with_reducible apply q_blockX) | ((with_reducible apply q_blockY); · rfl)))
  all_goals (refine w_unrollE 2 ?_)
  all_goals (repeat (first | (with_reducible apply w_unr) | (with_reducible apply w_assoc) | (with_reducible apply w_skip) | (with_reducible apply w_ret) | (with_reducible apply w_retE) | (with_reducible apply w_skipE) | (with_reducible apply w_exit) | (with_reducible apply w_exitE) | (with_reducible apply w_block) | (with_reducible apply w_blockE) | ((with_reducible apply w_reg); · simp only [shA, eff, Int.reduceEq, Int.reduceAdd, Int.reduceSub, Nat.reduceBEq, Nat.reduceEqDiff, reduceCtorEq, Nat.reduceAdd, Nat.reduceSub, Nat.reduceMul, Nat.reduceLeDiff, Int.reduceToNat, Int.reduceLT, Int.reduceLE, Int.reduceNeg, wr3, wr4, wr5, e1, hw1, e2, f1, f2, f3, f4]; with_reducible rfl) | ((with_reducible apply w_regE); · simp only [shA, eff, Int.reduceEq, Int.reduceAdd, Int.reduceSub, Nat.reduceBEq, Nat.reduceEqDiff, reduceCtorEq, Nat.reduceAdd, Nat.reduceSub, Nat.reduceMul, Nat.reduceLeDiff, Int.reduceToNat, Int.reduceLT, Int.reduceLE, Int.reduceNeg, wr3, wr4, wr5, e1, hw1, e2, f1, f2, f3, f4]; with_reducible rfl) | ((with_reducible apply w_condT); · simp only [shA, eff, Int.reduceEq, Int.reduceAdd, Int.reduceSub, Nat.reduceBEq, Nat.reduceEqDiff, reduceCtorEq, Nat.reduceAdd, Nat.reduceSub, Nat.reduceMul, Nat.reduceLeDiff, Int.reduceToNat, Int.reduceLT, Int.reduceLE, Int.reduceNeg, wr3, wr4, wr5, e1, hw1, e2, f1, f2, f3, f4]) | ((with_reducible apply w_condF); · simp only [shA, eff, Int.reduceEq, Int.reduceAdd, Int.reduceSub, Nat.reduceBEq, Nat.reduceEqDiff, reduceCtorEq, Nat.reduceAdd, Nat.reduceSub, Nat.reduceMul, Nat.reduceLeDiff, Int.reduceToNat, Int.reduceLT, Int.reduceLE, Int.reduceNeg, wr3, wr4, wr5, e1, hw1, e2, f1, f2, f3, f4]) | ((with_reducible apply w_condTE); · simp only [shA, eff, Int.reduceEq, Int.reduceAdd, Int.reduceSub, Nat.reduceBEq, Nat.reduceEqDiff, reduceCtorEq, Nat.reduceAdd, Nat.reduceSub, Nat.reduceMul, Nat.reduceLeDiff, Int.reduceToNat, Int.reduceLT, Int.reduceLE, Int.reduceNeg, wr3, wr4, wr5, e1, hw1, e2, f1, f2, f3, f4]) | ((with_reducible apply w_condFE); · simp only [shA, eff, Int.reduceEq, Int.reduceAdd, Int.reduceSub, Nat.reduceBEq, Nat.reduceEqDiff, reduceCtorEq, Nat.reduceAdd, Nat.reduceSub, Nat.reduceMul, Nat.reduceLeDiff, Int.reduceToNat, Int.reduceLT, Int.reduceLE, Int.reduceNeg, wr3, wr4, wr5, e1, hw1, e2, f1, f2, f3, f4]) | (with_reducible apply q_then) | (with_reducible apply q_blockN) | (with_reducible apply q_blockR) | (with_reducible apply q_thenR) | (with_reducible apply q_thenX) | (with_reducible apply q_blockX) | ((with_reducible apply q_blockY); · rfl)))
  all_goals simp [Post0, ansW, resT, SRes.get, ES.fs, ES.kill, has, drp, seqO, nbeq, lk, I, S, TV.ids3, TV.ids2, TV.ids1, TV.ids0, TV.ren3, TV.ren2, TV.ren1, TV.ren0, ]
theorem tail3_ok (g : Sh.Glob) (l : List UInt8) (low high : Int) (b1 : UInt8) (e1 : l[1]? = some b1) (h : ¬ (b1.toNat : Int) < low) (h' : ¬ high < (b1.toNat : Int)) (b2 : UInt8) (e2 : l[2]? = some b2) (k : 128 ≤ b2.toNat) (k' : b2.toNat ≤ 191) : signTail g l 3 low high 3 := by
  have hw1 := wrap64 (x := (b1.toNat : Int)) (by have := u8_lt b1; omega) (by have := u8_lt b1; omega)
  have f1 := decide_F (p := ((b1.toNat : Int) < low)) (by omega)
  have f2 := decide_F (p := (high < (b1.toNat : Int))) (by omega)
  have f3 := decide_F (p := ((b2.toNat : Int) < 128)) (by omega)
  have f4 := decide_F (p := (191 < (b2.toNat : Int))) (by omega)
  rintro x (rfl | rfl)
  all_goals (repeat (first | (with_reducible apply w_unr) | (with_reducible apply w_assoc) | (with_reducible apply w_skip) | (with_reducible apply w_ret) | (with_reducible apply w_retE) | (with_reducible apply w_skipE) | (with_reducible apply w_exit) | (with_reducible apply w_exitE) | (with_reducible apply w_block) | (with_reducible apply w_blockE) | ((with_reducible apply w_reg); · simp only [shA, eff, Int.reduceEq, Int.reduceAdd, Int.reduceSub, Nat.reduceBEq, Nat.reduceEqDiff, reduceCtorEq, Nat.reduceAdd, Nat.reduceSub, Nat.reduceMul, Nat.reduceLeDiff, Int.reduceToNat, Int.reduceLT, Int.reduceLE, Int.reduceNeg, wr3, wr4, wr5, e1, hw1, e2, f1, f2, f3, f4]; with_reducible rfl) | ((with_reducible apply w_regE); · simp only [shA, eff, Int.reduceEq, Int.reduceAdd, Int.reduceSub, Nat.reduceBEq, Nat.reduceEqDiff, reduceCtorEq, Nat.reduceAdd, Nat.reduceSub, Nat.reduceMul, Nat.reduceLeDiff, Int.reduceToNat, Int.reduceLT, Int.reduceLE, Int.reduceNeg, wr3, wr4, wr5, e1, hw1, e2, f1, f2, f3, f4]; with_reducible rfl) | ((with_reducible apply w_condT); · simp only [shA, eff, Int.reduceEq, Int.reduceAdd, Int.reduceSub, Nat.reduceBEq, Nat.reduceEqDiff, reduceCtorEq, Nat.reduceAdd, Nat.reduceSub, Nat.reduceMul, Nat.reduceLeDiff, Int.reduceToNat, Int.reduceLT, Int.reduceLE, Int.reduceNeg, wr3, wr4, wr5, e1, hw1, e2, f1, f2, f3, f4]) | ((with_reducible apply w_condF); · simp only [shA, eff, Int.reduceEq, Int.reduceAdd, Int.reduceSub, Nat.reduceBEq, Nat.reduceEqDiff, reduceCtorEq, Nat.reduceAdd, Nat.reduceSub, Nat.reduceMul, Nat.reduceLeDiff, Int.reduceToNat, Int.reduceLT, Int.reduceLE, Int.reduceNeg, wr3, wr4, wr5, e1, hw1, e2, f1, f2, f3, f4]) | ((with_reducible apply w_condTE); · simp only [shA, eff, Int.reduceEq, Int.reduceAdd, Int.reduceSub, Nat.reduceBEq, Nat.reduceEqDiff, reduceCtorEq, Nat.reduceAdd, Nat.reduceSub, Nat.reduceMul, Nat.reduceLeDiff, Int.reduceToNat, Int.reduceLT, Int.reduceLE, Int.reduceNeg, wr3, wr4, wr5, e1, hw1, e2, f1, f2, f3, f4]) | ((with_reducible apply w_condFE); · simp only [shA, eff, Int.reduceEq, Int.reduceAdd, Int.reduceSub, Nat.reduceBEq, Nat.reduceEqDiff, reduceCtorEq, Nat.reduceAdd, Nat.reduceSub, Nat.reduceMul, Nat.reduceLeDiff, Int.reduceToNat, Int.reduceLT, Int.reduceLE, Int.reduceNeg, wr3, wr4, wr5, e1, hw1, e2, f1, f2, f3, f4]) | (with_reducible apply q_then) | (with_reducible apply q_blockN) | (with_reducible apply q_blockR) | (with_reducible apply q_thenR) | (with_reducible apply q_thenX) | (with_reducible apply q_blockX) | ((with_reducible apply q_blockY); · rfl)))
  all_goals (refine w_unrollE 2 ?_)
  all_goals (repeat (first | (with_reducible apply w_unr) | (with_reducible apply w_assoc) | (with_reducible apply w_skip) | (with_reducible apply w_ret) | (with_reducible apply w_retE) | (with_reducible apply w_skipE) | (with_reducible apply w_exit) | (with_reducible apply w_exitE) | (with_reducible apply w_block) | (with_reducible apply w_blockE) | ((with_reducible apply w_reg); · simp only [shA, eff, Int.reduceEq, Int.reduceAdd, Int.reduceSub, Nat.reduceBEq, Nat.reduceEqDiff, reduceCtorEq, Nat.reduceAdd, Nat.reduceSub, Nat.reduceMul, Nat.reduceLeDiff, Int.reduceToNat, Int.reduceLT, Int.reduceLE, Int.reduceNeg, wr3, wr4, wr5, e1, hw1, e2, f1, f2, f3, f4]; with_reducible rfl) | ((with_reducible apply w_regE); · simp only [shA, eff, Int.reduceEq, Int.reduceAdd, Int.reduceSub, Nat.reduceBEq, Nat.reduceEqDiff, reduceCtorEq, Nat.reduceAdd, Nat.reduceSub, Nat.reduceMul, Nat.reduceLeDiff, Int.reduceToNat, Int.reduceLT, Int.reduceLE, Int.reduceNeg, wr3, wr4, wr5, e1, hw1, e2, f1, f2, f3, f4]; with_reducible rfl) | ((with_reducible apply w_condT); · simp only [shA, eff, Int.reduceEq, Int.reduceAdd, Int.reduceSub, Nat.reduceBEq, Nat.reduceEqDiff, reduceCtorEq, Nat.reduceAdd, Nat.reduceSub, Nat.reduceMul, Nat.reduceLeDiff, Int.reduceToNat, Int.reduceLT, Int.reduceLE, Int.reduceNeg, wr3, wr4, wr5, e1, hw1, e2, f1, f2, f3, f4]) | ((with_reducible apply w_condF); · simp only [shA, eff, Int.reduceEq, Int.reduceAdd, Int.reduceSub, Nat.reduceBEq, Nat.reduceEqDiff, reduceCtorEq, Nat.reduceAdd, Nat.reduceSub, Nat.reduceMul, Nat.reduceLeDiff, Int.reduceToNat, Int.reduceLT, Int.reduceLE, Int.reduceNeg, wr3, wr4, wr5, e1, hw1, e2, f1, f2, f3, f4]) | ((with_reducible apply w_condTE); · simp only [shA, eff, Int.reduceEq, Int.reduceAdd, Int.reduceSub, Nat.reduceBEq, Nat.reduceEqDiff, reduceCtorEq, Nat.reduceAdd, Nat.reduceSub, Nat.reduceMul, Nat.reduceLeDiff, Int.reduceToNat, Int.reduceLT, Int.reduceLE, Int.reduceNeg, wr3, wr4, wr5, e1, hw1, e2, f1, f2, f3, f4]) | ((with_reducible apply w_condFE); · simp only [shA, eff, Int.reduceEq, Int.reduceAdd, Int.reduceSub, Nat.reduceBEq, Nat.reduceEqDiff, reduceCtorEq, Nat.reduceAdd, Nat.reduceSub, Nat.reduceMul, Nat.reduceLeDiff, Int.reduceToNat, Int.reduceLT, Int.reduceLE, Int.reduceNeg, wr3, wr4, wr5, e1, hw1, e2, f1, f2, f3, f4]) | (with_reducible apply q_then) | (with_reducible apply q_blockN) | (with_reducible apply q_blockR) | (with_reducible apply q_thenR) | (with_reducible apply q_thenX) | (with_reducible apply q_blockX) | ((with_reducible apply q_blockY); · rfl)))
  all_goals simp [Post0, ansW, resT, SRes.get, ES.fs, ES.kill, has, drp, seqO, nbeq, lk, I, S, TV.ids3, TV.ids2, TV.ids1, TV.ids0, TV.ren3, TV.ren2, TV.ren1, TV.ren0, ]
theorem tail4_lo (g : Sh.Glob) (l : List UInt8) (low high : Int) (b1 : UInt8) (e1 : l[1]? = some b1) (h : (b1.toNat : Int) < low) : signTail g l 4 low high 0 := by
  have hw1 := wrap64 (x := (b1.toNat : Int)) (by have := u8_lt b1; omega) (by have := u8_lt b1; omega)
  have f1 := decide_T (p := ((b1.toNat : Int) < low)) (by omega)
  rintro x (rfl | rfl)
  all_goals (repeat (first | (with_reducible apply w_unr) | (with_reducible apply w_assoc) | (with_reducible apply w_skip) | (with_reducible apply w_ret) | (with_reducible apply w_retE) | (with_reducible apply w_skipE) | (with_reducible apply w_exit) | (with_reducible apply w_exitE) | (with_reducible apply w_block) | (with_reducible apply w_blockE) | ((with_reducible apply w_reg); · simp only [shA, eff, Int.reduceEq, Int.reduceAdd, Int.reduceSub, Nat.reduceBEq, Nat.reduceEqDiff, reduceCtorEq, Nat.reduceAdd, Nat.reduceSub, Nat.reduceMul, Nat.reduceLeDiff, Int.reduceToNat, Int.reduceLT, Int.reduceLE, Int.reduceNeg, wr3, wr4, wr5, e1, hw1, f1]; with_reducible rfl) | ((with_reducible apply w_regE); · simp only [shA, eff, Int.reduceEq, Int.reduceAdd, Int.reduceSub, Nat.reduceBEq, Nat.reduceEqDiff, reduceCtorEq, Nat.reduceAdd, Nat.reduceSub, Nat.reduceMul, Nat.reduceLeDiff, Int.reduceToNat, Int.reduceLT, Int.reduceLE, Int.reduceNeg, wr3, wr4, wr5, e1, hw1, f1]; with_reducible rfl) | ((with_reducible apply w_condT); · simp only [shA, eff, Int.reduceEq, Int.reduceAdd, Int.reduceSub, Nat.reduceBEq, Nat.reduceEqDiff, reduceCtorEq, Nat.reduceAdd, Nat.reduceSub, Nat.reduceMul, Nat.reduceLeDiff, Int.reduceToNat, Int.reduceLT, Int.reduceLE, Int.reduceNeg, wr3, wr4, wr5, e1, hw1, f1]) | ((with_reducible apply w_condF); · simp only [shA, eff, Int.reduceEq, Int.reduceAdd, Int.reduceSub, Nat.reduceBEq, Nat.reduceEqDiff, reduceCtorEq, Nat.reduceAdd, Nat.reduceSub, Nat.reduceMul, Nat.reduceLeDiff, Int.reduceToNat, Int.reduceLT, Int.reduceLE, Int.reduceNeg, wr3, wr4, wr5, e1, hw1, f1]) | ((with_reducible apply w_condTE); · simp only [shA, eff, Int.reduceEq, Int.reduceAdd, Int.reduceSub, Nat.reduceBEq, Nat.reduceEqDiff, reduceCtorEq, Nat.reduceAdd, Nat.reduceSub, Nat.reduceMul, Nat.reduceLeDiff, Int.reduceToNat, Int.reduceLT, Int.reduceLE, Int.reduceNeg, wr3, wr4, wr5, e1, hw1, f1]) | ((with_reducible apply w_condFE); · simp only [shA, eff, Int.reduceEq, Int.reduceAdd, Int.reduceSub, Nat.reduceBEq, Nat.reduceEqDiff, reduceCtorEq, Nat.reduceAdd, Nat.reduceSub, Nat.reduceMul, Nat.reduceLeDiff, Int.reduceToNat, Int.reduceLT, Int.reduceLE, Int.reduceNeg, wr3, wr4, wr5, e1, hw1, f1]) | (with_reducible apply q_then) | (with_reducible apply q_blockN) | (with_reducible apply q_blockR) | (with_reducible apply q_thenR) | (with_reducible apply q_thenX) | (with_reducible apply q_blockX) | ((with_reducible apply q_blockY); · rfl)))
  all_goals simp [Post0, ansW, resT, SRes.get, ES.fs, ES.kill, has, drp, seqO, nbeq, lk, I, S, TV.ids3, TV.ids2, TV.ids1, TV.ids0, TV.ren3, TV.ren2, TV.ren1, TV.ren0, ]
theorem tail4_hi (g : Sh.Glob) (l : List UInt8) (low high : Int) (b1 : UInt8) (e1 : l[1]? = some b1) (h : ¬ (b1.toNat : Int) < low) (h' : high < (b1.toNat : Int)) : signTail g l 4 low high 0 := by
  have hw1 := wrap64 (x := (b1.toNat : Int)) (by have := u8_lt b1; omega) (by have := u8_lt b1; omega)
  have f1 := decide_F (p := ((b1.toNat : Int) < low)) (by omega)
  have f2 := decide_T (p := (high < (b1.toNat : Int))) (by omega)
  rintro x (rfl | rfl)
  all_goals (repeat (first | (with_reducible apply w_unr) | (with_reducible apply w_assoc) | (with_reducible apply w_skip) | (with_reducible apply w_ret) | (with_reducible apply w_retE) | (with_reducible apply w_skipE) | (with_reducible apply w_exit) | (with_reducible apply w_exitE) | (with_reducible apply w_block) | (with_reducible apply w_blockE) | ((with_reducible apply w_reg); · simp only [shA, eff, Int.reduceEq, Int.reduceAdd, Int.reduceSub, Nat.reduceBEq, Nat.reduceEqDiff, reduceCtorEq, Nat.reduceAdd, Nat.reduceSub, Nat.reduceMul, Nat.reduceLeDiff, Int.reduceToNat, Int.reduceLT, Int.reduceLE, Int.reduceNeg, wr3, wr4, wr5, e1, hw1, f1, f2]; with_reducible rfl) | ((with_reducible apply w_regE); · simp only [shA, eff, Int.reduceEq, Int.reduceAdd, Int.reduceSub, Nat.reduceBEq, Nat.reduceEqDiff, reduceCtorEq, Nat.reduceAdd, Nat.reduceSub, Nat.reduceMul, Nat.reduceLeDiff, Int.reduceToNat, Int.reduceLT, Int.reduceLE, Int.reduceNeg, wr3, wr4, wr5, e1, hw1, f1, f2]; with_reducible rfl) | ((with_reducible apply w_condT); · simp only [shA, eff, Int.reduceEq, Int.reduceAdd, Int.reduceSub, Nat.reduceBEq, Nat.reduceEqDiff, reduceCtorEq, Nat.reduceAdd, Nat.reduceSub, Nat.reduceMul, Nat.reduceLeDiff, Int.reduceToNat, Int.reduceLT, Int.reduceLE, Int.reduceNeg, wr3, wr4, wr5, e1, hw1, f1, f2]) | ((with_reducible apply w_condF); · simp only [shA, eff, Int.reduceEq, Int.reduceAdd, Int.reduceSub, Nat.reduceBEq, Nat.reduceEqDiff, reduceCtorEq, Nat.reduceAdd, Nat.reduceSub, Nat.reduceMul, Nat.reduceLeDiff, Int.reduceToNat, Int.reduceLT, Int.reduceLE, Int.reduceNeg, wr3, wr4, wr5, e1, hw1, f1, f2]) | ((with_reducible apply w_condTE); · simp only [shA, eff, Int.reduceEq, Int.reduceAdd, Int.reduceSub, Nat.reduceBEq, Nat.reduceEqDiff, reduceCtorEq, Nat.reduceAdd, Nat.reduceSub, Nat.reduceMul, Nat.reduceLeDiff, Int.reduceToNat, Int.reduceLT, Int.reduceLE, Int.reduceNeg, wr3, wr4, wr5, e1, hw1, f1, f2]) | ((with_reducible apply w_condFE); · simp only [shA, eff, Int.reduceEq, Int.reduceAdd, Int.reduceSub, Nat.reduceBEq, Nat.reduceEqDiff, reduceCtorEq, Nat.reduceAdd, Nat.reduceSub, Nat.reduceMul, Nat.reduceLeDiff, Int.reduceToNat, Int.reduceLT, Int.reduceLE, Int.reduceNeg, wr3, wr4, wr5, e1, hw1, f1, f2]) | (with_reducible apply q_then) | (with_reducible apply q_blockN) | (with_reducible apply q_blockR) | (with_reducible apply q_thenR) | (with_reducible apply q_thenX) | (with_reducible apply q_blockX) | ((with_reducible apply q_blockY); · rfl)))
  all_goals simp [Post0, ansW, resT, SRes.get, ES.fs, ES.kill, has, drp, seqO, nbeq, lk, I, S, TV.ids3, TV.ids2, TV.ids1, TV.ids0, TV.ren3, TV.ren2, TV.ren1, TV.ren0, ]
theorem tail4_lo2 (g : Sh.Glob) (l : List UInt8) (low high : Int) (b1 : UInt8) (e1 : l[1]? = some b1) (h : ¬ (b1.toNat : Int) < low) (h' : ¬ high < (b1.toNat : Int)) (b2 : UInt8) (e2 : l[2]? = some b2) (k : b2.toNat < 128) : signTail g l 4 low high 0 := by
  have hw1 := wrap64 (x := (b1.toNat : Int)) (by have := u8_lt b1; omega) (by have := u8_lt b1; omega)
  have f1 := decide_F (p := ((b1.toNat : Int) < low)) (by omega)
  have f2 := decide_F (p := (high < (b1.toNat : Int))) (by omega)
  have f3 := decide_T (p := ((b2.toNat : Int) < 128)) (by omega)
  rintro x (rfl | rfl)
  all_goals (repeat (first | (with_reducible apply w_unr) | (with_reducible apply w_assoc) | (with_reducible apply w_skip) | (with_reducible apply w_ret) | (with_reducible apply w_retE) | (with_reducible apply w_skipE) | (with_reducible apply w_exit) | (with_reducible apply w_exitE) | (with_reducible apply w_block) | (with_reducible apply w_blockE) | ((with_reducible apply w_reg); · simp only [shA, eff, Int.reduceEq, Int.reduceAdd, Int.reduceSub, Nat.reduceBEq, Nat.reduceEqDiff, reduceCtorEq, Nat.reduceAdd, Nat.reduceSub, Nat.reduceMul, Nat.reduceLeDiff, Int.reduceToNat, Int.reduceLT, Int.reduceLE, Int.reduceNeg, wr3, wr4, wr5, e1, hw1, e2, f1, f2, f3]; with_reducible rfl) | ((with_reducible apply w_regE); · simp only [shA, eff, Int.reduceEq, Int.reduceAdd, Int.reduceSub, Nat.reduceBEq, Nat.reduceEqDiff, reduceCtorEq, Nat.reduceAdd, Nat.reduceSub, Nat.reduceMul, Nat.reduceLeDiff, Int.reduceToNat, Int.reduceLT, Int.reduceLE, Int.reduceNeg, wr3, wr4, wr5, e1, hw1, e2, f1, f2, f3]; with_reducible rfl) | ((with_reducible apply w_condT); · simp only [shA, eff, Int.reduceEq, Int.reduceAdd, Int.reduceSub, Nat.reduceBEq, Nat.reduceEqDiff, reduceCtorEq, Nat.reduceAdd, Nat.reduceSub, Nat.reduceMul, Nat.reduceLeDiff, Int.reduceToNat, Int.reduceLT, Int.reduceLE, Int.reduceNeg, wr3, wr4, wr5, e1, hw1, e2, f1, f2, f3]) | ((with_reducible apply w_condF); · simp only [shA, eff, Int.reduceEq, Int.reduceAdd, Int.reduceSub, Nat.reduceBEq, Nat.reduceEqDiff, reduceCtorEq, Nat.reduceAdd, Nat.reduceSub, Nat.reduceMul, Nat.reduceLeDiff, Int.reduceToNat, Int.reduceLT, Int.reduceLE, Int.reduceNeg, wr3, wr4, wr5, e1, hw1, e2, f1, f2, f3]) | ((with_reducible apply w_condTE); · simp only [shA, eff, Int.reduceEq, Int.reduceAdd, Int.reduceSub, Nat.reduceBEq, Nat.reduceEqDiff, reduceCtorEq, Nat.reduceAdd, Nat.reduceSub, Nat.reduceMul, Nat.reduceLeDiff, Int.reduceToNat, Int.reduceLT, Int.reduceLE, Int.reduceNeg, wr3, wr4, wr5, e1, hw1, e2, f1, f2, f3]) | ((with_reducible apply w_condFE); · simp only [shA, eff, Int.reduceEq, Int.reduceAdd, Int.reduceSub, Nat.reduceBEq, Nat.reduceEqDiff, reduceCtorEq, Nat.reduceAdd, Nat.reduceSub, Nat.reduceMul, Nat.reduceLeDiff, Int.reduceToNat, Int.reduceLT, Int.reduceLE, Int.reduceNeg, wr3, wr4, wr5, e1, hw1, e2, f1, f2, f3]) | (with_reducible apply q_then) | (with_reducible apply q_blockN) | (with_reducible apply q_blockR) | (with_reducible apply q_thenR) | (with_reducible apply q_thenX) | (with_reducible apply q_blockX) | ((with_reducible apply q_blockY); · rfl)))
  all_goals (refine w_unrollE 3 ?_)
  all_goals (repeat (first | (with_reducible apply w_unr) | (with_reducible apply w_assoc) | (with_reducible apply w_skip) | (with_reducible apply w_ret) | (with_reducible apply w_retE) | (with_reducible apply w_skipE) | (with_reducible apply w_exit) | (with_reducible apply w_exitE) | (with_reducible apply w_block) | (with_reducible apply w_blockE) | ((with_reducible apply w_reg); · simp only [shA, eff, Int.reduceEq, Int.reduceAdd, Int.reduceSub, Nat.reduceBEq, Nat.reduceEqDiff, reduceCtorEq, Nat.reduceAdd, Nat.reduceSub, Nat.reduceMul, Nat.reduceLeDiff, Int.reduceToNat, Int.reduceLT, Int.reduceLE, Int.reduceNeg, wr3, wr4, wr5, e1, hw1, e2, f1, f2, f3]; with_reducible rfl) | ((with_reducible apply w_regE); · simp only [shA, eff, Int.reduceEq, Int.reduceAdd, Int.reduceSub, Nat.reduceBEq, Nat.reduceEqDiff, reduceCtorEq, Nat.reduceAdd, Nat.reduceSub, Nat.reduceMul, Nat.reduceLeDiff, Int.reduceToNat, Int.reduceLT, Int.reduceLE, Int.reduceNeg, wr3, wr4, wr5, e1, hw1, e2, f1, f2, f3]; with_reducible rfl) | ((with_reducible apply w_condT); · simp only [shA, eff, Int.reduceEq, Int.reduceAdd, Int.reduceSub, Nat.reduceBEq, Nat.reduceEqDiff, reduceCtorEq, Nat.reduceAdd, Nat.reduceSub, Nat.reduceMul, Nat.reduceLeDiff, Int.reduceToNat, Int.reduceLT, Int.reduceLE, Int.reduceNeg, wr3, wr4, wr5, e1, hw1, e2, f1, f2, f3]) | ((with_reducible apply w_condF); · simp only [shA, eff, Int.reduceEq, Int.reduceAdd, Int.reduceSub, Nat.reduceBEq, Nat.reduceEqDiff, reduceCtorEq, Nat.reduceAdd, Nat.reduceSub, Nat.reduceMul, Nat.reduceLeDiff, Int.reduceToNat, Int.reduceLT, Int.reduceLE, Int.reduceNeg, wr3, wr4, wr5, e1, hw1, e2, f1, f2, f3]) | ((with_reducible apply w_condTE); · simp only [shA, eff, Int.reduceEq, Int.reduceAdd, Int.reduceSub, Nat.reduceBEq, Nat.reduceEqDiff, reduceCtorEq, Nat.reduceAdd, Nat.reduceSub, Nat.reduceMul, Nat.reduceLeDiff, Int.reduceToNat, Int.reduceLT, Int.reduceLE, Int.reduceNeg, wr3, wr4, wr5, e1, hw1, e2, f1, f2, f3]) | ((with_reducible apply w_condFE); · simp only [shA, eff, Int.reduceEq, Int.reduceAdd, Int.reduceSub, Nat.reduceBEq, Nat.reduceEqDiff, reduceCtorEq, Nat.reduceAdd, Nat.reduceSub, Nat.reduceMul, Nat.reduceLeDiff, Int.reduceToNat, Int.reduceLT, Int.reduceLE, Int.reduceNeg, wr3, wr4, wr5, e1, hw1, e2, f1, f2, f3]) | (with_reducible apply q_then) | (with_reducible apply q_blockN) | (with_reducible apply q_blockR) | (with_reducible apply q_thenR) | (with_reducible apply q_thenX) | (with_reducible apply q_blockX) | ((with_reducible apply q_blockY); · rfl)))
  all_goals simp [Post0, ansW, resT, SRes.get, ES.fs, ES.kill, has, drp, seqO, nbeq, lk, I, S, TV.ids3, TV.ids2, TV.ids1, TV.ids0, TV.ren3, TV.ren2, TV.ren1, TV.ren0, ]
theorem tail4_hi2 (g : Sh.Glob) (l : List UInt8) (low high : Int) (b1 : UInt8) (e1 : l[1]? = some b1) (h : ¬ (b1.toNat : Int) < low) (h' : ¬ high < (b1.toNat : Int)) (b2 : UInt8) (e2 : l[2]? = some b2) (k : 191 < b2.toNat) : signTail g l 4 low high 0 := by
  have hw1 := wrap64 (x := (b1.toNat : Int)) (by have := u8_lt b1; omega) (by have := u8_lt b1; omega)
  have f1 := decide_F (p := ((b1.toNat : Int) < low)) (by omega)
  have f2 := decide_F (p := (high < (b1.toNat : Int))) (by omega)
  have f3 := decide_F (p := ((b2.toNat : Int) < 128)) (by omega)
  have f4 := decide_T (p := (191 < (b2.toNat : Int))) (by omega)
  rintro x (rfl | rfl)
  all_goals (repeat (first | (with_reducible apply w_unr) | (with_reducible apply w_assoc) | (with_reducible apply w_skip) | (with_reducible apply w_ret) | (with_reducible apply w_retE) | (with_reducible apply w_skipE) | (with_reducible apply w_exit) | (with_reducible apply w_exitE) | (with_reducible apply w_block) | (with_reducible apply w_blockE) | ((with_reducible apply w_reg); · simp only [shA, eff, Int.reduceEq, Int.reduceAdd, Int.reduceSub, Nat.reduceBEq, Nat.reduceEqDiff, reduceCtorEq, Nat.reduceAdd, Nat.reduceSub, Nat.reduceMul, Nat.reduceLeDiff, Int.reduceToNat, Int.reduceLT, Int.reduceLE, Int.reduceNeg, wr3, wr4, wr5, e1, hw1, e2, f1, f2, f3, f4]; with_reducible rfl) | ((with_reducible apply w_regE); · simp only [shA, eff, Int.reduceEq, Int.reduceAdd, Int.reduceSub, Nat.reduceBEq, Nat.reduceEqDiff, reduceCtorEq, Nat.reduceAdd, Nat.reduceSub, Nat.reduceMul, Nat.reduceLeDiff, Int.reduceToNat, Int.reduceLT, Int.reduceLE, Int.reduceNeg, wr3, wr4, wr5, e1, hw1, e2, f1, f2, f3, f4]; with_reducible rfl) | ((with_reducible apply w_condT); · simp only [shA, eff, Int.reduceEq, Int.reduceAdd, Int.reduceSub, Nat.reduceBEq, Nat.reduceEqDiff, reduceCtorEq, Nat.reduceAdd, Nat.reduceSub, Nat.reduceMul, Nat.reduceLeDiff, Int.reduceToNat, Int.reduceLT, Int.reduceLE, Int.reduceNeg, wr3, wr4, wr5, e1, hw1, e2, f1, f2, f3, f4]) | ((with_reducible apply w_condF); · simp only [shA, eff, Int.reduceEq, Int.reduceAdd, Int.reduceSub, Nat.reduceBEq, Nat.reduceEqDiff, reduceCtorEq, Nat.reduceAdd, Nat.reduceSub, Nat.reduceMul, Nat.reduceLeDiff, Int.reduceToNat, Int.reduceLT, Int.reduceLE, Int.reduceNeg, wr3, wr4, wr5, e1, hw1, e2, f1, f2, f3, f4]) | ((with_reducible apply w_condTE); · simp only [shA, eff, Int.reduceEq, Int.reduceAdd, Int.reduceSub, Nat.reduceBEq, Nat.reduceEqDiff, reduceCtorEq, Nat.reduceAdd, Nat.reduceSub, Nat.reduceMul, Nat.reduceLeDiff, Int.reduceToNat, Int.reduceLT, Int.reduceLE, Int.reduceNeg, wr3, wr4, wr5, e1, hw1, e2, f1, f2, f3, f4]) | ((with_reducible apply w_condFE); · simp only [shA, eff, Int.reduceEq, Int.reduceAdd, Int.reduceSub, Nat.reduceBEq, Nat.reduceEqDiff, reduceCtorEq, Nat.reduceAdd, Nat.reduceSub, Nat.reduceMul, Nat.reduceLeDiff, Int.reduceToNat, Int.reduceLT, Int.reduceLE, Int.reduceNeg, wr3, wr4, wr5, e1, hw1, e2, f1, f2, f3, f4]) | (with_reducible apply q_then) | (with_reducible apply q_blockN) | (with_reducible apply q_blockR) | (with_reducible apply q_thenR) | (with_reducible apply q_thenX) | (with_reducible apply q_blockX) | ((with_reducible apply q_blockY); · rfl)))
  all_goals (refine w_unrollE 3 ?_)
  all_goals (repeat (first | (with_reducible apply w_unr) | (with_reducible apply w_assoc) | (with_reducible apply w_skip) | (with_reducible apply w_ret) | (with_reducible apply w_retE) | (with_reducible apply w_skipE) | (with_reducible apply w_exit) | (with_reducible apply w_exitE) | (with_reducible apply w_block) | (with_reducible apply w_blockE) | ((with_reducible apply w_reg); · simp only [shA, eff, Int.reduceEq, Int.reduceAdd, Int.reduceSub, Nat.reduceBEq, Nat.reduceEqDiff, reduceCtorEq, Nat.reduceAdd, Nat.reduceSub, Nat.reduceMul, Nat.reduceLeDiff, Int.reduceToNat, Int.reduceLT, Int.reduceLE, Int.reduceNeg, wr3, wr4, wr5, e1, hw1, e2, f1, f2, f3, f4]; with_reducible rfl) | ((with_reducible apply w_regE); · simp only [shA, eff, Int.reduceEq, Int.reduceAdd, Int.reduceSub, Nat.reduceBEq, Nat.reduceEqDiff, reduceCtorEq, Nat.reduceAdd, Nat.reduceSub, Nat.reduceMul, Nat.reduceLeDiff, Int.reduceToNat, Int.reduceLT, Int.reduceLE, Int.reduceNeg, wr3, wr4, wr5, e1, hw1, e2, f1, f2, f3, f4]; with_reducible rfl) | ((with_reducible apply w_condT); · simp only [shA, eff, Int.reduceEq, Int.reduceAdd, Int.reduceSub, Nat.reduceBEq, Nat.reduceEqDiff, reduceCtorEq, Nat.reduceAdd, Nat.reduceSub, Nat.reduceMul, Nat.reduceLeDiff, Int.reduceToNat, Int.reduceLT, Int.reduceLE, Int.reduceNeg, wr3, wr4, wr5, e1, hw1, e2, f1, f2, f3, f4]) | ((with_reducible apply w_condF); · simp only [shA, eff, Int.reduceEq, Int.reduceAdd, Int.reduceSub, Nat.reduceBEq, Nat.reduceEqDiff, reduceCtorEq, Nat.reduceAdd, Nat.reduceSub, Nat.reduceMul, Nat.reduceLeDiff, Int.reduceToNat, Int.reduceLT, Int.reduceLE, Int.reduceNeg, wr3, wr4, wr5, e1, hw1, e2, f1, f2, f3, f4]) | ((with_reducible apply w_condTE); · simp only [shA, eff, Int.reduceEq, Int.reduceAdd, Int.reduceSub, Nat.reduceBEq, Nat.reduceEqDiff, reduceCtorEq, Nat.reduceAdd, Nat.reduceSub, Nat.reduceMul, Nat.reduceLeDiff, Int.reduceToNat, Int.reduceLT, Int.reduceLE, Int.reduceNeg, wr3, wr4, wr5, e1, hw1, e2, f1, f2, f3, f4]) | ((with_reducible apply w_condFE); · simp only [shA, eff, Int.reduceEq, Int.reduceAdd, Int.reduceSub, Nat.reduceBEq, Nat.reduceEqDiff, reduceCtorEq, Nat.reduceAdd, Nat.reduceSub, Nat.reduceMul, Nat.reduceLeDiff, Int.reduceToNat, Int.reduceLT, Int.reduceLE, Int.reduceNeg, wr3, wr4, wr5, e1, hw1, e2, f1, f2, f3, f4]) | (with_reducible apply q_then) | (with_reducible apply q_blockN) | (with_reducible apply q_blockR) | (with_reducible apply q_thenR) | (with_reducible apply q_thenX) | (with_reducible apply q_blockX) | ((with_reducible apply q_blockY); · rfl)))
  all_goals simp [Post0, ansW, resT, SRes.get, ES.fs, ES.kill, has, drp, seqO, nbeq, lk, I, S, TV.ids3, TV.ids2, TV.ids1, TV.ids0, TV.ren3, TV.ren2, TV.ren1, TV.ren0, ]
theorem tail4_lo3 (g : Sh.Glob) (l : List UInt8) (low high : Int) (b1 : UInt8) (e1 : l[1]? = some b1) (h : ¬ (b1.toNat : Int) < low) (h' : ¬ high < (b1.toNat : Int)) (b2 : UInt8) (e2 : l[2]? = some b2) (k : 128 ≤ b2.toNat) (k' : b2.toNat ≤ 191) (b3 : UInt8) (e3 : l[3]? = some b3) (q : b3.toNat < 128) : signTail g l 4 low high 0 := by
  have hw1 := wrap64 (x := (b1.toNat : Int)) (by have := u8_lt b1; omega) (by have := u8_lt b1; omega)
  have f1 := decide_F (p := ((b1.toNat : Int) < low)) (by omega)
  have f2 := decide_F (p := (high < (b1.toNat : Int))) (by omega)
  have f3 := decide_F (p := ((b2.toNat : Int) < 128)) (by omega)
  have f4 := decide_F (p := (191 < (b2.toNat : Int))) (by omega)
  have f5 := decide_T (p := ((b3.toNat : Int) < 128)) (by omega)
  rintro x (rfl | rfl)
  all_goals (repeat (first | (with_reducible apply w_unr) | (with_reducible apply w_assoc) | (with_reducible apply w_skip) | (with_reducible apply w_ret) | (with_reducible apply w_retE) | (with_reducible apply w_skipE) | (with_reducible apply w_exit) | (with_reducible apply w_exitE) | (with_reducible apply w_block) | (with_reducible apply w_blockE) | ((with_reducible apply w_reg); · simp only [shA, eff, Int.reduceEq, Int.reduceAdd, Int.reduceSub, Nat.reduceBEq, Nat.reduceEqDiff, reduceCtorEq, Nat.reduceAdd, Nat.reduceSub, Nat.reduceMul, Nat.reduceLeDiff, Int.reduceToNat, Int.reduceLT, Int.reduceLE, Int.reduceNeg, wr3, wr4, wr5, e1, hw1, e2, e3, f1, f2, f3, f4, f5]; with_reducible rfl) | ((with_reducible apply w_regE); · simp only [shA, eff, Int.reduceEq, Int.reduceAdd, Int.reduceSub, Nat.reduceBEq, Nat.reduceEqDiff, reduceCtorEq, Nat.reduceAdd, Nat.reduceSub, Nat.reduceMul, Nat.reduceLeDiff, Int.reduceToNat, Int.reduceLT, Int.reduceLE, Int.reduceNeg, wr3, wr4, wr5, e1, hw1, e2, e3, f1, f2, f3, f4, f5]; with_reducible rfl) | ((with_reducible apply w_condT); · simp only [shA, eff, Int.reduceEq, Int.reduceAdd, Int.reduceSub, Nat.reduceBEq, Nat.reduceEqDiff, reduceCtorEq, Nat.reduceAdd, Nat.reduceSub, Nat.reduceMul, Nat.reduceLeDiff, Int.reduceToNat, Int.reduceLT, Int.reduceLE, Int.reduceNeg, wr3, wr4, wr5, e1, hw1, e2, e3, f1, f2, f3, f4, f5]) | ((with_reducible apply w_condF); · simp only [shA, eff, Int.reduceEq, Int.reduceAdd, Int.reduceSub, Nat.reduceBEq, Nat.reduceEqDiff, reduceCtorEq, Nat.reduceAdd, Nat.reduceSub, Nat.reduceMul, Nat.reduceLeDiff, Int.reduceToNat, Int.reduceLT, Int.reduceLE, Int.reduceNeg, wr3, wr4, wr5, e1, hw1, e2, e3, f1, f2, f3, f4, f5]) | ((with_reducible apply w_condTE); · simp only [shA, eff, Int.reduceEq, Int.reduceAdd, Int.reduceSub, Nat.reduceBEq, Nat.reduceEqDiff, reduceCtorEq, Nat.reduceAdd, Nat.reduceSub, Nat.reduceMul, Nat.reduceLeDiff, Int.reduceToNat, Int.reduceLT, Int.reduceLE, Int.reduceNeg, wr3, wr4, wr5, e1, hw1, e2, e3, f1, f2, f3, f4, f5]) | ((with_reducible apply w_condFE); · simp only [shA, eff, Int.reduceEq, Int.reduceAdd, Int.reduceSub, Nat.reduceBEq, Nat.reduceEqDiff, reduceCtorEq, Nat.reduceAdd, Nat.reduceSub, Nat.reduceMul, Nat.reduceLeDiff, Int.reduceToNat, Int.reduceLT, Int.reduceLE, Int.reduceNeg, wr3, wr4, wr5, e1, hw1, e2, e3, f1, f2, f3, f4, f5]) | (with_reducible apply q_then) | (with_reducible apply q_blockN) | (with_reducible apply q_blockR) | (with_reducible apply q_thenR) | (with_reducible apply q_thenX) | (with_reducible apply q_blockX) | ((with_reducible apply q_blockY); · rfl)))
  all_goals (refine w_unrollE 3 ?_)
  all_goals (repeat (first | (with_reducible apply w_unr) | (with_reducible apply w_assoc) | (with_reducible apply w_skip) | (with_reducible apply w_ret) | (with_reducible apply w_retE) | (with_reducible apply w_skipE) | (with_reducible apply w_exit) | (with_reducible apply w_exitE) | (with_reducible apply w_block) | (with_reducible apply w_blockE) | ((with_reducible apply w_reg); · simp only [shA, eff, Int.reduceEq, Int.reduceAdd, Int.reduceSub, Nat.reduceBEq, Nat.reduceEqDiff, reduceCtorEq, Nat.reduceAdd, Nat.reduceSub, Nat.reduceMul, Nat.reduceLeDiff, Int.reduceToNat, Int.reduceLT, Int.reduceLE, Int.reduceNeg, wr3, wr4, wr5, e1, hw1, e2, e3, f1, f2, f3, f4, f5]; with_reducible rfl) | ((with_reducible apply w_regE); · simp only [shA, eff, Int.reduceEq, Int.reduceAdd, Int.reduceSub, Nat.reduceBEq, Nat.reduceEqDiff, reduceCtorEq, Nat.reduceAdd, Nat.reduceSub, Nat.reduceMul, Nat.reduceLeDiff, Int.reduceToNat, Int.reduceLT, Int.reduceLE, Int.reduceNeg, wr3, wr4, wr5, e1, hw1, e2, e3, f1, f2, f3, f4, f5]; with_reducible rfl) | ((with_reducible apply w_condT); · simp only [shA, eff, Int.reduceEq, Int.reduceAdd, Int.reduceSub, Nat.reduceBEq, Nat.reduceEqDiff, reduceCtorEq, Nat.reduceAdd, Nat.reduceSub, Nat.reduceMul, Nat.reduceLeDiff, Int.reduceToNat, Int.reduceLT, Int.reduceLE, Int.reduceNeg, wr3, wr4, wr5, e1, hw1, e2, e3, f1, f2, f3, f4, f5]) | ((with_reducible apply w_condF); · simp only [shA, eff, Int.reduceEq, Int.reduceAdd, Int.reduceSub, Nat.reduceBEq, Nat.reduceEqDiff, reduceCtorEq, Nat.reduceAdd, Nat.reduceSub, Nat.reduceMul, Nat.reduceLeDiff, Int.reduceToNat, Int.reduceLT, Int.reduceLE, Int.reduceNeg, wr3, wr4, wr5, e1, hw1, e2, e3, f1, f2, f3, f4, f5]) | ((with_reducible apply w_condTE); · simp only [shA, eff, Int.reduceEq, Int.reduceAdd, Int.reduceSub, Nat.reduceBEq, Nat.reduceEqDiff, reduceCtorEq, Nat.reduceAdd, Nat.reduceSub, Nat.reduceMul, Nat.reduceLeDiff, Int.reduceToNat, Int.reduceLT, Int.reduceLE, Int.reduceNeg, wr3, wr4, wr5, e1, hw1, e2, e3, f1, f2, f3, f4, f5]) | ((with_reducible apply w_condFE); · simp only [shA, eff, Int.reduceEq, Int.reduceAdd, Int.reduceSub, Nat.reduceBEq, Nat.reduceEqDiff, reduceCtorEq, Nat.reduceAdd, Nat.reduceSub, Nat.reduceMul, Nat.reduceLeDiff, Int.reduceToNat, Int.reduceLT, Int.reduceLE, Int.reduceNeg, wr3, wr4, wr5, e1, hw1, e2, e3, f1, f2, f3, f4, f5]) | (with_reducible apply q_then) | (with_reducible apply q_blockN) | (with_reducible apply q_blockR) | (with_reducible apply q_thenR) | (with_reducible apply q_thenX) | (with_reducible apply q_blockX) | ((with_reducible apply q_blockY); · rfl)))
  all_goals simp [Post0, ansW, resT, SRes.get, ES.fs, ES.kill, has, drp, seqO, nbeq, lk, I, S, TV.ids3, TV.ids2, TV.ids1, TV.ids0, TV.ren3, TV.ren2, TV.ren1, TV.ren0, ]
theorem tail4_hi3 (g : Sh.Glob) (l : List UInt8) (low high : Int) (b1 : UInt8) (e1 : l[1]? = some b1) (h : ¬ (b1.toNat : Int) < low) (h' : ¬ high < (b1.toNat : Int)) (b2 : UInt8) (e2 : l[2]? = some b2) (k : 128 ≤ b2.toNat) (k' : b2.toNat ≤ 191) (b3 : UInt8) (e3 : l[3]? = some b3) (q : 191 < b3.toNat) : signTail g l 4 low high 0 := by
  have hw1 := wrap64 (x := (b1.toNat : Int)) (by have := u8_lt b1; omega) (by have := u8_lt b1; omega)
  have f1 := decide_F (p := ((b1.toNat : Int) < low)) (by omega)
  have f2 := decide_F (p := (high < (b1.toNat : Int))) (by omega)
  have f3 := decide_F (p := ((b2.toNat : Int) < 128)) (by omega)
  have f4 := decide_F (p := (191 < (b2.toNat : Int))) (by omega)
  have f5 := decide_F (p := ((b3.toNat : Int) < 128)) (by omega)
  have f6 := decide_T (p := (191 < (b3.toNat : Int))) (by omega)
  rintro x (rfl | rfl)
  all_goals (repeat (first | (with_reducible apply w_unr) | (with_reducible apply w_assoc) | (with_reducible apply w_skip) | (with_reducible apply w_ret) | (with_reducible apply w_retE) | (with_reducible apply w_skipE) | (with_reducible apply w_exit) | (with_reducible apply w_exitE) | (with_reducible apply w_block) | (with_reducible apply w_blockE) | ((with_reducible apply w_reg); · simp only [shA, eff, Int.reduceEq, Int.reduceAdd, Int.reduceSub, Nat.reduceBEq, Nat.reduceEqDiff, reduceCtorEq, Nat.reduceAdd, Nat.reduceSub, Nat.reduceMul, Nat.reduceLeDiff, Int.reduceToNat, Int.reduceLT, Int.reduceLE, Int.reduceNeg, wr3, wr4, wr5, e1, hw1, e2, e3, f1, f2, f3, f4, f5, f6]; with_reducible rfl) | ((with_reducible apply w_regE); · simp only [shA, eff, Int.reduceEq, Int.reduceAdd, Int.reduceSub, Nat.reduceBEq, Nat.reduceEqDiff, reduceCtorEq, Nat.reduceAdd, Nat.reduceSub, Nat.reduceMul, Nat.reduceLeDiff, Int.reduceToNat, Int.reduceLT, Int.reduceLE, Int.reduceNeg, wr3, wr4, wr5, e1, hw1, e2, e3, f1, f2, f3, f4, f5, f6]; with_reducible rfl) | ((with_reducible apply w_condT); · simp only [shA, eff, Int.reduceEq, Int.reduceAdd, Int.reduceSub, Nat.reduceBEq, Nat.reduceEqDiff, reduceCtorEq, Nat.reduceAdd, Nat.reduceSub, Nat.reduceMul, Nat.reduceLeDiff, Int.reduceToNat, Int.reduceLT, Int.reduceLE, Int.reduceNeg, wr3, wr4, wr5, e1, hw1, e2, e3, f1, f2, f3, f4, f5, f6]) | ((with_reducible apply w_condF); · simp only [shA, eff, Int.reduceEq, Int.reduceAdd, Int.reduceSub, Nat.reduceBEq, Nat.reduceEqDiff, reduceCtorEq, Nat.reduceAdd, Nat.reduceSub, Nat.reduceMul, Nat.reduceLeDiff, Int.reduceToNat, Int.reduceLT, Int.reduceLE, Int.reduceNeg, wr3, wr4, wr5, e1, hw1, e2, e3, f1, f2, f3, f4, f5, f6]) | ((with_reducible apply w_condTE); · simp only [shA, eff, Int.reduceEq, Int.reduceAdd, Int.reduceSub, Nat.reduceBEq, Nat.reduceEqDiff, reduceCtorEq, Nat.reduceAdd, Nat.reduceSub, Nat.reduceMul, Nat.reduceLeDiff, Int.reduceToNat, Int.reduceLT, Int.reduceLE, Int.reduceNeg, wr3, wr4, wr5, e1, hw1, e2, e3, f1, f2, f3, f4, f5, f6]) | ((with_reducible apply w_condFE); · simp only [shA, eff, Int.reduceEq, Int.reduceAdd, Int.reduceSub, Nat.reduceBEq, Nat.reduceEqDiff, reduceCtorEq, Nat.reduceAdd, Nat.reduceSub, Nat.reduceMul, Nat.reduceLeDiff, Int.reduceToNat, Int.reduceLT, Int.reduceLE, Int.reduceNeg, wr3, wr4, wr5, e1, hw1, e2, e3, f1, f2, f3, f4, f5, f6]) | (with_reducible apply q_then) | (with_reducible apply q_blockN) | (with_reducible apply q_blockR) | (with_reducible apply q_thenR) | (with_reducible apply q_thenX) | (with_reducible apply q_blockX) | ((with_reducible apply q_blockY); · rfl)))
  all_goals (refine w_unrollE 3 ?_)
  all_goals (repeat (first | (with_reducible apply w_unr) | (with_reducible apply w_assoc) | (with_reducible apply w_skip) | (with_reducible apply w_ret) | (with_reducible apply w_retE) | (with_reducible apply w_skipE) | (with_reducible apply w_exit) | (with_reducible apply w_exitE) | (with_reducible apply w_block) | (with_reducible apply w_blockE) | ((with_reducible apply w_reg); · simp only [shA, eff, Int.reduceEq, Int.reduceAdd, Int.reduceSub, Nat.reduceBEq, Nat.reduceEqDiff, reduceCtorEq, Nat.reduceAdd, Nat.reduceSub, Nat.reduceMul, Nat.reduceLeDiff, Int.reduceToNat, Int.reduceLT, Int.reduceLE, Int.reduceNeg, wr3, wr4, wr5, e1, hw1, e2, e3, f1, f2, f3, f4, f5, f6]; with_reducible rfl) | ((with_reducible apply w_regE); · simp only [shA, eff, Int.reduceEq, Int.reduceAdd, Int.reduceSub, Nat.reduceBEq, Nat.reduceEqDiff, reduceCtorEq, Nat.reduceAdd, Nat.reduceSub, Nat.reduceMul, Nat.reduceLeDiff, Int.reduceToNat, Int.reduceLT, Int.reduceLE, Int.reduceNeg, wr3, wr4, wr5, e1, hw1, e2, e3, f1, f2, f3, f4, f5, f6]; with_reducible rfl) | ((with_reducible apply w_condT); · simp only [shA, eff, Int.reduceEq, Int.reduceAdd, Int.reduceSub, Nat.reduceBEq, Nat.reduceEqDiff, reduceCtorEq, Nat.reduceAdd, Nat.reduceSub, Nat.reduceMul, Nat.reduceLeDiff, Int.reduceToNat, Int.reduceLT, Int.reduceLE, Int.reduceNeg, wr3, wr4, wr5, e1, hw1, e2, e3, f1, f2, f3, f4, f5, f6]) | ((with_reducible apply w_condF); · simp only [shA, eff, Int.reduceEq, Int.reduceAdd, Int.reduceSub, Nat.reduceBEq, Nat.reduceEqDiff, reduceCtorEq, Nat.reduceAdd, Nat.reduceSub, Nat.reduceMul, Nat.reduceLeDiff, Int.reduceToNat, Int.reduceLT, Int.reduceLE, Int.reduceNeg, wr3, wr4, wr5, e1, hw1, e2, e3, f1, f2, f3, f4, f5, f6]) | ((with_reducible apply w_condTE); · simp only [shA, eff, Int.reduceEq, Int.reduceAdd, Int.reduceSub, Nat.reduceBEq, Nat.reduceEqDiff, reduceCtorEq, Nat.reduceAdd, Nat.reduceSub, Nat.reduceMul, Nat.reduceLeDiff, Int.reduceToNat, Int.reduceLT, Int.reduceLE, Int.reduceNeg, wr3, wr4, wr5, e1, hw1, e2, e3, f1, f2, f3, f4, f5, f6]) | ((with_reducible apply w_condFE); · simp only [shA, eff, Int.reduceEq, Int.reduceAdd, Int.reduceSub, Nat.reduceBEq, Nat.reduceEqDiff, reduceCtorEq, Nat.reduceAdd, Nat.reduceSub, Nat.reduceMul, Nat.reduceLeDiff, Int.reduceToNat, Int.reduceLT, Int.reduceLE, Int.reduceNeg, wr3, wr4, wr5, e1, hw1, e2, e3, f1, f2, f3, f4, f5, f6]) | (with_reducible apply q_then) | (with_reducible apply q_blockN) | (with_reducible apply q_blockR) | (with_reducible apply q_thenR) | (with_reducible apply q_thenX) | (with_reducible apply q_blockX) | ((with_reducible apply q_blockY); · rfl)))
  all_goals simp [Post0, ansW, resT, SRes.get, ES.fs, ES.kill, has, drp, seqO, nbeq, lk, I, S, TV.ids3, TV.ids2, TV.ids1, TV.ids0, TV.ren3, TV.ren2, TV.ren1, TV.ren0, ]
theorem tail4_ok (g : Sh.Glob) (l : List UInt8) (low high : Int) (b1 : UInt8) (e1 : l[1]? = some b1) (h : ¬ (b1.toNat : Int) < low) (h' : ¬ high < (b1.toNat : Int)) (b2 : UInt8) (e2 : l[2]? = some b2) (k : 128 ≤ b2.toNat) (k' : b2.toNat ≤ 191) (b3 : UInt8) (e3 : l[3]? = some b3) (q : 128 ≤ b3.toNat) (q' : b3.toNat ≤ 191) : signTail g l 4 low high 4 := by
  have hw1 := wrap64 (x := (b1.toNat : Int)) (by have := u8_lt b1; omega) (by have := u8_lt b1; omega)
  have f1 := decide_F (p := ((b1.toNat : Int) < low)) (by omega)
  have f2 := decide_F (p := (high < (b1.toNat : Int))) (by omega)
  have f3 := decide_F (p := ((b2.toNat : Int) < 128)) (by omega)
  have f4 := decide_F (p := (191 < (b2.toNat : Int))) (by omega)
  have f5 := decide_F (p := ((b3.toNat : Int) < 128)) (by omega)
  have f6 := decide_F (p := (191 < (b3.toNat : Int))) (by omega)
  rintro x (rfl | rfl)
  all_goals (repeat (first | (with_reducible apply w_unr) | (with_reducible apply w_assoc) | (with_reducible apply w_skip) | (with_reducible apply w_ret) | (with_reducible apply w_retE) | (with_reducible apply w_skipE) | (with_reducible apply w_exit) | (with_reducible apply w_exitE) | (with_reducible apply w_block) | (with_reducible apply w_blockE) | ((with_reducible apply w_reg); · simp only [shA, eff, Int.reduceEq, Int.reduceAdd, Int.reduceSub, Nat.reduceBEq, Nat.reduceEqDiff, reduceCtorEq, Nat.reduceAdd, Nat.reduceSub, Nat.reduceMul, Nat.reduceLeDiff, Int.reduceToNat, Int.reduceLT, Int.reduceLE, Int.reduceNeg, wr3, wr4, wr5, e1, hw1, e2, e3, f1, f2, f3, f4, f5, f6]; with_reducible rfl) | ((with_reducible apply w_regE); · simp only [shA, eff, Int.reduceEq, Int.reduceAdd, Int.reduceSub, Nat.reduceBEq, Nat.reduceEqDiff, reduceCtorEq, Nat.reduceAdd, Nat.reduceSub, Nat.reduceMul, Nat.reduceLeDiff, Int.reduceToNat, Int.reduceLT, Int.reduceLE, Int.reduceNeg, wr3, wr4, wr5, e1, hw1, e2, e3, f1, f2, f3, f4, f5, f6]; with_reducible rfl) | ((with_reducible apply w_condT); · simp only [shA, eff, Int.reduceEq, Int.reduceAdd, Int.reduceSub, Nat.reduceBEq, Nat.reduceEqDiff, reduceCtorEq, Nat.reduceAdd, Nat.reduceSub, Nat.reduceMul, Nat.reduceLeDiff, Int.reduceToNat, Int.reduceLT, Int.reduceLE, Int.reduceNeg, wr3, wr4, wr5, e1, hw1, e2, e3, f1, f2, f3, f4, f5, f6]) | ((with_reducible apply w_condF); · simp only [shA, eff, Int.reduceEq, Int.reduceAdd, Int.reduceSub, Nat.reduceBEq, Nat.reduceEqDiff, reduceCtorEq, Nat.reduceAdd, Nat.reduceSub, Nat.reduceMul, Nat.reduceLeDiff, Int.reduceToNat, Int.reduceLT, Int.reduceLE, Int.reduceNeg, wr3, wr4, wr5, e1, hw1, e2, e3, f1, f2, f3, f4, f5, f6]) | ((with_reducible apply w_condTE); · simp only [shA, eff, Int.reduceEq, Int.reduceAdd, Int.reduceSub, Nat.reduceBEq, Nat.reduceEqDiff, reduceCtorEq, Nat.reduceAdd, Nat.reduceSub, Nat.reduceMul, Nat.reduceLeDiff, Int.reduceToNat, Int.reduceLT, Int.reduceLE, Int.reduceNeg, wr3, wr4, wr5, e1, hw1, e2, e3, f1, f2, f3, f4, f5, f6]) | ((with_reducible apply w_condFE); · simp only [shA, eff, Int.reduceEq, Int.reduceAdd, Int.reduceSub, Nat.reduceBEq, Nat.reduceEqDiff, reduceCtorEq, Nat.reduceAdd, Nat.reduceSub, Nat.reduceMul, Nat.reduceLeDiff, Int.reduceToNat, Int.reduceLT, Int.reduceLE, Int.reduceNeg, wr3, wr4, wr5, e1, hw1, e2, e3, f1, f2, f3, f4, f5, f6]) | (with_reducible apply q_then) | (with_reducible apply q_blockN) | (with_reducible apply q_blockR) | (with_reducible apply q_thenR) | (with_reducible apply q_thenX) | (with_reducible apply q_blockX) | ((with_reducible apply q_blockY); · rfl)))
  all_goals (refine w_unrollE 3 ?_)
  all_goals (repeat (first | (with_reducible apply w_unr) | (with_reducible apply w_assoc) | (with_reducible apply w_skip) | (with_reducible apply w_ret) | (with_reducible apply w_retE) | (with_reducible apply w_skipE) | (with_reducible apply w_exit) | (with_reducible apply w_exitE) | (with_reducible apply w_block) | (with_reducible apply w_blockE) | ((with_reducible apply w_reg); · simp only [shA, eff, Int.reduceEq, Int.reduceAdd, Int.reduceSub, Nat.reduceBEq, Nat.reduceEqDiff, reduceCtorEq, Nat.reduceAdd, Nat.reduceSub, Nat.reduceMul, Nat.reduceLeDiff, Int.reduceToNat, Int.reduceLT, Int.reduceLE, Int.reduceNeg, wr3, wr4, wr5, e1, hw1, e2, e3, f1, f2, f3, f4, f5, f6]; with_reducible rfl) | ((with_reducible apply w_regE); · simp only [shA, eff, Int.reduceEq, Int.reduceAdd, Int.reduceSub, Nat.reduceBEq, Nat.reduceEqDiff, reduceCtorEq, Nat.reduceAdd, Nat.reduceSub, Nat.reduceMul, Nat.reduceLeDiff, Int.reduceToNat, Int.reduceLT, Int.reduceLE, Int.reduceNeg, wr3, wr4, wr5, e1, hw1, e2, e3, f1, f2, f3, f4, f5, f6]; with_reducible rfl) | ((with_reducible apply w_condT); · simp only [shA, eff, Int.reduceEq, Int.reduceAdd, Int.reduceSub, Nat.reduceBEq, Nat.reduceEqDiff, reduceCtorEq, Nat.reduceAdd, Nat.reduceSub, Nat.reduceMul, Nat.reduceLeDiff, Int.reduceToNat, Int.reduceLT, Int.reduceLE, Int.reduceNeg, wr3, wr4, wr5, e1, hw1, e2, e3, f1, f2, f3, f4, f5, f6]) | ((with_reducible apply w_condF); · simp only [shA, eff, Int.reduceEq, Int.reduceAdd, Int.reduceSub, Nat.reduceBEq, Nat.reduceEqDiff, reduceCtorEq, Nat.reduceAdd, Nat.reduceSub, Nat.reduceMul, Nat.reduceLeDiff, Int.reduceToNat, Int.reduceLT, Int.reduceLE, Int.reduceNeg, wr3, wr4, wr5, e1, hw1, e2, e3, f1, f2, f3, f4, f5, f6]) | ((with_reducible apply w_condTE); · simp only [shA, eff, Int.reduceEq, Int.reduceAdd, Int.reduceSub, Nat.reduceBEq, Nat.reduceEqDiff, reduceCtorEq, Nat.reduceAdd, Nat.reduceSub, Nat.reduceMul, Nat.reduceLeDiff, Int.reduceToNat, Int.reduceLT, Int.reduceLE, Int.reduceNeg, wr3, wr4, wr5, e1, hw1, e2, e3, f1, f2, f3, f4, f5, f6]) | ((with_reducible apply w_condFE); · simp only [shA, eff, Int.reduceEq, Int.reduceAdd, Int.reduceSub, Nat.reduceBEq, Nat.reduceEqDiff, reduceCtorEq, Nat.reduceAdd, Nat.reduceSub, Nat.reduceMul, Nat.reduceLeDiff, Int.reduceToNat, Int.reduceLT, Int.reduceLE, Int.reduceNeg, wr3, wr4, wr5, e1, hw1, e2, e3, f1, f2, f3, f4, f5, f6]) | (with_reducible apply q_then) | (with_reducible apply q_blockN) | (with_reducible apply q_blockR) | (with_reducible apply q_thenR) | (with_reducible apply q_thenX) | (with_reducible apply q_blockX) | ((with_reducible apply q_blockY); · rfl)))
  all_goals simp [Post0, ansW, resT, SRes.get, ES.fs, ES.kill, has, drp, seqO, nbeq, lk, I, S, TV.ids3, TV.ids2, TV.ids1, TV.ids0, TV.ren3, TV.ren2, TV.ren1, TV.ren0, ]
end Go.Proofs.YtdlolkogifigpaaDoor
end

section
/- The document's Sign: how many bytes the first sign of a text has. No statement of the program is proved here. -/
namespace Go.Proofs.YtdlolkogifigpaaDoor
open Go Go.RowKit Go.Mor Go.Sh Go.Sh.Cd1
set_option maxRecDepth 100000
set_option maxHeartbeats 8000000

theorem sign_a (g : Sh.Glob) (l : List UInt8) (b0 : UInt8) (hl : 0 < l.length) (e0 : l[0]? = some b0) (hc : b0.toNat < 128) : SCalls Tryd.prog g 99 [S (str l)] [] (I 1) [] := by
  refine call_of0 hmix tf_moraineref03_Sign rfl ?_
  have hw0 := wrap64 (x := (b0.toNat : Int)) (by have := u8_lt b0; omega) (by have := u8_lt b0; omega)
  have hln := decide_F (p := ((l.length : Int) = 0)) (by omega)
  have t0 := decide_T (p := ((b0.toNat : Int) < 128)) (by have := u8_lt b0; omega)
  have t1 := decide_F (p := (194 ≤ (b0.toNat : Int))) (by have := u8_lt b0; omega)
  have t2 := decide_T (p := ((b0.toNat : Int) ≤ 223)) (by have := u8_lt b0; omega)
  have t3 := decide_F (p := (224 ≤ (b0.toNat : Int))) (by have := u8_lt b0; omega)
  have t4 := decide_T (p := ((b0.toNat : Int) ≤ 239)) (by have := u8_lt b0; omega)
  have t5 := decide_F (p := (240 ≤ (b0.toNat : Int))) (by have := u8_lt b0; omega)
  have t6 := decide_T (p := ((b0.toNat : Int) ≤ 244)) (by have := u8_lt b0; omega)
  have t7 := decide_F (p := ((b0.toNat : Int) = 224)) (by have := u8_lt b0; omega)
  have t8 := decide_F (p := ((b0.toNat : Int) = 237)) (by have := u8_lt b0; omega)
  have t9 := decide_F (p := ((b0.toNat : Int) = 240)) (by have := u8_lt b0; omega)
  have t10 := decide_F (p := ((b0.toNat : Int) = 244)) (by have := u8_lt b0; omega)
  repeat (first | (with_reducible apply w_unr) | (with_reducible apply w_assoc) | (with_reducible apply w_skip) | (with_reducible apply w_ret) | (with_reducible apply w_retE) | (with_reducible apply w_skipE) | (with_reducible apply w_exit) | (with_reducible apply w_exitE) | (with_reducible apply w_block) | (with_reducible apply w_blockE) | ((with_reducible apply w_reg); · simp only [shA, eff, Int.reduceEq, Int.reduceAdd, Int.reduceSub, Nat.reduceBEq, Nat.reduceEqDiff, reduceCtorEq, Nat.reduceAdd, Nat.reduceSub, Nat.reduceMul, Nat.reduceLeDiff, Int.reduceToNat, Int.reduceLT, Int.reduceLE, Int.reduceNeg, e0, hw0, hln, t0, t1, t2, t3, t4, t5, t6, t7, t8, t9, t10]; with_reducible rfl) | ((with_reducible apply w_regE); · simp only [shA, eff, Int.reduceEq, Int.reduceAdd, Int.reduceSub, Nat.reduceBEq, Nat.reduceEqDiff, reduceCtorEq, Nat.reduceAdd, Nat.reduceSub, Nat.reduceMul, Nat.reduceLeDiff, Int.reduceToNat, Int.reduceLT, Int.reduceLE, Int.reduceNeg, e0, hw0, hln, t0, t1, t2, t3, t4, t5, t6, t7, t8, t9, t10]; with_reducible rfl) | ((with_reducible apply w_condT); · simp only [shA, eff, Int.reduceEq, Int.reduceAdd, Int.reduceSub, Nat.reduceBEq, Nat.reduceEqDiff, reduceCtorEq, Nat.reduceAdd, Nat.reduceSub, Nat.reduceMul, Nat.reduceLeDiff, Int.reduceToNat, Int.reduceLT, Int.reduceLE, Int.reduceNeg, e0, hw0, hln, t0, t1, t2, t3, t4, t5, t6, t7, t8, t9, t10]) | ((with_reducible apply w_condF); · simp only [shA, eff, Int.reduceEq, Int.reduceAdd, Int.reduceSub, Nat.reduceBEq, Nat.reduceEqDiff, reduceCtorEq, Nat.reduceAdd, Nat.reduceSub, Nat.reduceMul, Nat.reduceLeDiff, Int.reduceToNat, Int.reduceLT, Int.reduceLE, Int.reduceNeg, e0, hw0, hln, t0, t1, t2, t3, t4, t5, t6, t7, t8, t9, t10]) | ((with_reducible apply w_condTE); · simp only [shA, eff, Int.reduceEq, Int.reduceAdd, Int.reduceSub, Nat.reduceBEq, Nat.reduceEqDiff, reduceCtorEq, Nat.reduceAdd, Nat.reduceSub, Nat.reduceMul, Nat.reduceLeDiff, Int.reduceToNat, Int.reduceLT, Int.reduceLE, Int.reduceNeg, e0, hw0, hln, t0, t1, t2, t3, t4, t5, t6, t7, t8, t9, t10]) | ((with_reducible apply w_condFE); · simp only [shA, eff, Int.reduceEq, Int.reduceAdd, Int.reduceSub, Nat.reduceBEq, Nat.reduceEqDiff, reduceCtorEq, Nat.reduceAdd, Nat.reduceSub, Nat.reduceMul, Nat.reduceLeDiff, Int.reduceToNat, Int.reduceLT, Int.reduceLE, Int.reduceNeg, e0, hw0, hln, t0, t1, t2, t3, t4, t5, t6, t7, t8, t9, t10]) | (with_reducible apply q_then) | (with_reducible apply q_blockN) | (with_reducible apply q_blockR) | (with_reducible apply q_thenR) | (with_reducible apply q_thenX) | (with_reducible apply q_blockX) | ((with_reducible apply q_blockY); · rfl))
  all_goals simp [Post0, ansW, resT, SRes.get, ES.fs, ES.kill, has, drp, seqO, nbeq, lk, I, S, TV.ids3, TV.ids2, TV.ids1, TV.ids0, TV.ren3, TV.ren2, TV.ren1, TV.ren0, ]
theorem sign_b (g : Sh.Glob) (l : List UInt8) (b0 : UInt8) (hl : 0 < l.length) (e0 : l[0]? = some b0) (hc : 128 ≤ b0.toNat ∧ b0.toNat ≤ 193) : SCalls Tryd.prog g 99 [S (str l)] [] (I 0) [] := by
  refine call_of0 hmix tf_moraineref03_Sign rfl ?_
  have hw0 := wrap64 (x := (b0.toNat : Int)) (by have := u8_lt b0; omega) (by have := u8_lt b0; omega)
  have hln := decide_F (p := ((l.length : Int) = 0)) (by omega)
  have t0 := decide_F (p := ((b0.toNat : Int) < 128)) (by have := u8_lt b0; omega)
  have t1 := decide_F (p := (194 ≤ (b0.toNat : Int))) (by have := u8_lt b0; omega)
  have t2 := decide_T (p := ((b0.toNat : Int) ≤ 223)) (by have := u8_lt b0; omega)
  have t3 := decide_F (p := (224 ≤ (b0.toNat : Int))) (by have := u8_lt b0; omega)
  have t4 := decide_T (p := ((b0.toNat : Int) ≤ 239)) (by have := u8_lt b0; omega)
  have t5 := decide_F (p := (240 ≤ (b0.toNat : Int))) (by have := u8_lt b0; omega)
  have t6 := decide_T (p := ((b0.toNat : Int) ≤ 244)) (by have := u8_lt b0; omega)
  have t7 := decide_F (p := ((b0.toNat : Int) = 224)) (by have := u8_lt b0; omega)
  have t8 := decide_F (p := ((b0.toNat : Int) = 237)) (by have := u8_lt b0; omega)
  have t9 := decide_F (p := ((b0.toNat : Int) = 240)) (by have := u8_lt b0; omega)
  have t10 := decide_F (p := ((b0.toNat : Int) = 244)) (by have := u8_lt b0; omega)
  repeat (first | (with_reducible apply w_unr) | (with_reducible apply w_assoc) | (with_reducible apply w_skip) | (with_reducible apply w_ret) | (with_reducible apply w_retE) | (with_reducible apply w_skipE) | (with_reducible apply w_exit) | (with_reducible apply w_exitE) | (with_reducible apply w_block) | (with_reducible apply w_blockE) | ((with_reducible apply w_reg); · simp only [shA, eff, Int.reduceEq, Int.reduceAdd, Int.reduceSub, Nat.reduceBEq, Nat.reduceEqDiff, reduceCtorEq, Nat.reduceAdd, Nat.reduceSub, Nat.reduceMul, Nat.reduceLeDiff, Int.reduceToNat, Int.reduceLT, Int.reduceLE, Int.reduceNeg, e0, hw0, hln, t0, t1, t2, t3, t4, t5, t6, t7, t8, t9, t10]; with_reducible rfl) | ((with_reducible apply w_regE); · simp only [shA, eff, Int.reduceEq, Int.reduceAdd, Int.reduceSub, Nat.reduceBEq, Nat.reduceEqDiff, reduceCtorEq, Nat.reduceAdd, Nat.reduceSub, Nat.reduceMul, Nat.reduceLeDiff, Int.reduceToNat, Int.reduceLT, Int.reduceLE, Int.reduceNeg, e0, hw0, hln, t0, t1, t2, t3, t4, t5, t6, t7, t8, t9, t10]; with_reducible rfl) | ((with_reducible apply w_condT); · simp only [shA, eff, Int.reduceEq, Int.reduceAdd, Int.reduceSub, Nat.reduceBEq, Nat.reduceEqDiff, reduceCtorEq, Nat.reduceAdd, Nat.reduceSub, Nat.reduceMul, Nat.reduceLeDiff, Int.reduceToNat, Int.reduceLT, Int.reduceLE, Int.reduceNeg, e0, hw0, hln, t0, t1, t2, t3, t4, t5, t6, t7, t8, t9, t10]) | ((with_reducible apply w_condF); · simp only [shA, eff, Int.reduceEq, Int.reduceAdd, Int.reduceSub, Nat.reduceBEq, Nat.reduceEqDiff, reduceCtorEq, Nat.reduceAdd, Nat.reduceSub, Nat.reduceMul, Nat.reduceLeDiff, Int.reduceToNat, Int.reduceLT, Int.reduceLE, Int.reduceNeg, e0, hw0, hln, t0, t1, t2, t3, t4, t5, t6, t7, t8, t9, t10]) | ((with_reducible apply w_condTE); · simp only [shA, eff, Int.reduceEq, Int.reduceAdd, Int.reduceSub, Nat.reduceBEq, Nat.reduceEqDiff, reduceCtorEq, Nat.reduceAdd, Nat.reduceSub, Nat.reduceMul, Nat.reduceLeDiff, Int.reduceToNat, Int.reduceLT, Int.reduceLE, Int.reduceNeg, e0, hw0, hln, t0, t1, t2, t3, t4, t5, t6, t7, t8, t9, t10]) | ((with_reducible apply w_condFE); · simp only [shA, eff, Int.reduceEq, Int.reduceAdd, Int.reduceSub, Nat.reduceBEq, Nat.reduceEqDiff, reduceCtorEq, Nat.reduceAdd, Nat.reduceSub, Nat.reduceMul, Nat.reduceLeDiff, Int.reduceToNat, Int.reduceLT, Int.reduceLE, Int.reduceNeg, e0, hw0, hln, t0, t1, t2, t3, t4, t5, t6, t7, t8, t9, t10]) | (with_reducible apply q_then) | (with_reducible apply q_blockN) | (with_reducible apply q_blockR) | (with_reducible apply q_thenR) | (with_reducible apply q_thenX) | (with_reducible apply q_blockX) | ((with_reducible apply q_blockY); · rfl))
  all_goals simp [Post0, ansW, resT, SRes.get, ES.fs, ES.kill, has, drp, seqO, nbeq, lk, I, S, TV.ids3, TV.ids2, TV.ids1, TV.ids0, TV.ren3, TV.ren2, TV.ren1, TV.ren0, ]
theorem sign_z (g : Sh.Glob) (l : List UInt8) (b0 : UInt8) (hl : 0 < l.length) (e0 : l[0]? = some b0) (hc : 245 ≤ b0.toNat) : SCalls Tryd.prog g 99 [S (str l)] [] (I 0) [] := by
  refine call_of0 hmix tf_moraineref03_Sign rfl ?_
  have hw0 := wrap64 (x := (b0.toNat : Int)) (by have := u8_lt b0; omega) (by have := u8_lt b0; omega)
  have hln := decide_F (p := ((l.length : Int) = 0)) (by omega)
  have t0 := decide_F (p := ((b0.toNat : Int) < 128)) (by have := u8_lt b0; omega)
  have t1 := decide_T (p := (194 ≤ (b0.toNat : Int))) (by have := u8_lt b0; omega)
  have t2 := decide_F (p := ((b0.toNat : Int) ≤ 223)) (by have := u8_lt b0; omega)
  have t3 := decide_T (p := (224 ≤ (b0.toNat : Int))) (by have := u8_lt b0; omega)
  have t4 := decide_F (p := ((b0.toNat : Int) ≤ 239)) (by have := u8_lt b0; omega)
  have t5 := decide_T (p := (240 ≤ (b0.toNat : Int))) (by have := u8_lt b0; omega)
  have t6 := decide_F (p := ((b0.toNat : Int) ≤ 244)) (by have := u8_lt b0; omega)
  have t7 := decide_F (p := ((b0.toNat : Int) = 224)) (by have := u8_lt b0; omega)
  have t8 := decide_F (p := ((b0.toNat : Int) = 237)) (by have := u8_lt b0; omega)
  have t9 := decide_F (p := ((b0.toNat : Int) = 240)) (by have := u8_lt b0; omega)
  have t10 := decide_F (p := ((b0.toNat : Int) = 244)) (by have := u8_lt b0; omega)
  repeat (first | (with_reducible apply w_unr) | (with_reducible apply w_assoc) | (with_reducible apply w_skip) | (with_reducible apply w_ret) | (with_reducible apply w_retE) | (with_reducible apply w_skipE) | (with_reducible apply w_exit) | (with_reducible apply w_exitE) | (with_reducible apply w_block) | (with_reducible apply w_blockE) | ((with_reducible apply w_reg); · simp only [shA, eff, Int.reduceEq, Int.reduceAdd, Int.reduceSub, Nat.reduceBEq, Nat.reduceEqDiff, reduceCtorEq, Nat.reduceAdd, Nat.reduceSub, Nat.reduceMul, Nat.reduceLeDiff, Int.reduceToNat, Int.reduceLT, Int.reduceLE, Int.reduceNeg, e0, hw0, hln, t0, t1, t2, t3, t4, t5, t6, t7, t8, t9, t10]; with_reducible rfl) | ((with_reducible apply w_regE); · simp only [shA, eff, Int.reduceEq, Int.reduceAdd, Int.reduceSub, Nat.reduceBEq, Nat.reduceEqDiff, reduceCtorEq, Nat.reduceAdd, Nat.reduceSub, Nat.reduceMul, Nat.reduceLeDiff, Int.reduceToNat, Int.reduceLT, Int.reduceLE, Int.reduceNeg, e0, hw0, hln, t0, t1, t2, t3, t4, t5, t6, t7, t8, t9, t10]; with_reducible rfl) | ((with_reducible apply w_condT); · simp only [shA, eff, Int.reduceEq, Int.reduceAdd, Int.reduceSub, Nat.reduceBEq, Nat.reduceEqDiff, reduceCtorEq, Nat.reduceAdd, Nat.reduceSub, Nat.reduceMul, Nat.reduceLeDiff, Int.reduceToNat, Int.reduceLT, Int.reduceLE, Int.reduceNeg, e0, hw0, hln, t0, t1, t2, t3, t4, t5, t6, t7, t8, t9, t10]) | ((with_reducible apply w_condF); · simp only [shA, eff, Int.reduceEq, Int.reduceAdd, Int.reduceSub, Nat.reduceBEq, Nat.reduceEqDiff, reduceCtorEq, Nat.reduceAdd, Nat.reduceSub, Nat.reduceMul, Nat.reduceLeDiff, Int.reduceToNat, Int.reduceLT, Int.reduceLE, Int.reduceNeg, e0, hw0, hln, t0, t1, t2, t3, t4, t5, t6, t7, t8, t9, t10]) | ((with_reducible apply w_condTE); · simp only [shA, eff, Int.reduceEq, Int.reduceAdd, Int.reduceSub, Nat.reduceBEq, Nat.reduceEqDiff, reduceCtorEq, Nat.reduceAdd, Nat.reduceSub, Nat.reduceMul, Nat.reduceLeDiff, Int.reduceToNat, Int.reduceLT, Int.reduceLE, Int.reduceNeg, e0, hw0, hln, t0, t1, t2, t3, t4, t5, t6, t7, t8, t9, t10]) | ((with_reducible apply w_condFE); · simp only [shA, eff, Int.reduceEq, Int.reduceAdd, Int.reduceSub, Nat.reduceBEq, Nat.reduceEqDiff, reduceCtorEq, Nat.reduceAdd, Nat.reduceSub, Nat.reduceMul, Nat.reduceLeDiff, Int.reduceToNat, Int.reduceLT, Int.reduceLE, Int.reduceNeg, e0, hw0, hln, t0, t1, t2, t3, t4, t5, t6, t7, t8, t9, t10]) | (with_reducible apply q_then) | (with_reducible apply q_blockN) | (with_reducible apply q_blockR) | (with_reducible apply q_thenR) | (with_reducible apply q_thenX) | (with_reducible apply q_blockX) | ((with_reducible apply q_blockY); · rfl))
  all_goals simp [Post0, ansW, resT, SRes.get, ES.fs, ES.kill, has, drp, seqO, nbeq, lk, I, S, TV.ids3, TV.ids2, TV.ids1, TV.ids0, TV.ren3, TV.ren2, TV.ren1, TV.ren0, ]
theorem sign_cs (g : Sh.Glob) (l : List UInt8) (b0 : UInt8) (hl : 0 < l.length) (e0 : l[0]? = some b0) (hc : 194 ≤ b0.toNat ∧ b0.toNat ≤ 223) (hs : l.length < 2) : SCalls Tryd.prog g 99 [S (str l)] [] (I 0) [] := by
  refine call_of0 hmix tf_moraineref03_Sign rfl ?_
  have hw0 := wrap64 (x := (b0.toNat : Int)) (by have := u8_lt b0; omega) (by have := u8_lt b0; omega)
  have hln := decide_F (p := ((l.length : Int) = 0)) (by omega)
  have t0 := decide_F (p := ((b0.toNat : Int) < 128)) (by have := u8_lt b0; omega)
  have t1 := decide_T (p := (194 ≤ (b0.toNat : Int))) (by have := u8_lt b0; omega)
  have t2 := decide_T (p := ((b0.toNat : Int) ≤ 223)) (by have := u8_lt b0; omega)
  have t3 := decide_F (p := (224 ≤ (b0.toNat : Int))) (by have := u8_lt b0; omega)
  have t4 := decide_T (p := ((b0.toNat : Int) ≤ 239)) (by have := u8_lt b0; omega)
  have t5 := decide_F (p := (240 ≤ (b0.toNat : Int))) (by have := u8_lt b0; omega)
  have t6 := decide_T (p := ((b0.toNat : Int) ≤ 244)) (by have := u8_lt b0; omega)
  have t7 := decide_F (p := ((b0.toNat : Int) = 224)) (by have := u8_lt b0; omega)
  have t8 := decide_F (p := ((b0.toNat : Int) = 237)) (by have := u8_lt b0; omega)
  have t9 := decide_F (p := ((b0.toNat : Int) = 240)) (by have := u8_lt b0; omega)
  have t10 := decide_F (p := ((b0.toNat : Int) = 244)) (by have := u8_lt b0; omega)
  have hsn := decide_T (p := ((l.length : Int) < 2)) (by omega)
  repeat (first | (with_reducible apply w_unr) | (with_reducible apply w_assoc) | (with_reducible apply w_skip) | (with_reducible apply w_ret) | (with_reducible apply w_retE) | (with_reducible apply w_skipE) | (with_reducible apply w_exit) | (with_reducible apply w_exitE) | (with_reducible apply w_block) | (with_reducible apply w_blockE) | ((with_reducible apply w_reg); · simp only [shA, eff, Int.reduceEq, Int.reduceAdd, Int.reduceSub, Nat.reduceBEq, Nat.reduceEqDiff, reduceCtorEq, Nat.reduceAdd, Nat.reduceSub, Nat.reduceMul, Nat.reduceLeDiff, Int.reduceToNat, Int.reduceLT, Int.reduceLE, Int.reduceNeg, e0, hw0, hln, t0, t1, t2, t3, t4, t5, t6, t7, t8, t9, t10, hsn]; with_reducible rfl) | ((with_reducible apply w_regE); · simp only [shA, eff, Int.reduceEq, Int.reduceAdd, Int.reduceSub, Nat.reduceBEq, Nat.reduceEqDiff, reduceCtorEq, Nat.reduceAdd, Nat.reduceSub, Nat.reduceMul, Nat.reduceLeDiff, Int.reduceToNat, Int.reduceLT, Int.reduceLE, Int.reduceNeg, e0, hw0, hln, t0, t1, t2, t3, t4, t5, t6, t7, t8, t9, t10, hsn]; with_reducible rfl) | ((with_reducible apply w_condT); · simp only [shA, eff, Int.reduceEq, Int.reduceAdd, Int.reduceSub, Nat.reduceBEq, Nat.reduceEqDiff, reduceCtorEq, Nat.reduceAdd, Nat.reduceSub, Nat.reduceMul, Nat.reduceLeDiff, Int.reduceToNat, Int.reduceLT, Int.reduceLE, Int.reduceNeg, e0, hw0, hln, t0, t1, t2, t3, t4, t5, t6, t7, t8, t9, t10, hsn]) | ((with_reducible apply w_condF); · simp only [shA, eff, Int.reduceEq, Int.reduceAdd, Int.reduceSub, Nat.reduceBEq, Nat.reduceEqDiff, reduceCtorEq, Nat.reduceAdd, Nat.reduceSub, Nat.reduceMul, Nat.reduceLeDiff, Int.reduceToNat, Int.reduceLT, Int.reduceLE, Int.reduceNeg, e0, hw0, hln, t0, t1, t2, t3, t4, t5, t6, t7, t8, t9, t10, hsn]) | ((with_reducible apply w_condTE); · simp only [shA, eff, Int.reduceEq, Int.reduceAdd, Int.reduceSub, Nat.reduceBEq, Nat.reduceEqDiff, reduceCtorEq, Nat.reduceAdd, Nat.reduceSub, Nat.reduceMul, Nat.reduceLeDiff, Int.reduceToNat, Int.reduceLT, Int.reduceLE, Int.reduceNeg, e0, hw0, hln, t0, t1, t2, t3, t4, t5, t6, t7, t8, t9, t10, hsn]) | ((with_reducible apply w_condFE); · simp only [shA, eff, Int.reduceEq, Int.reduceAdd, Int.reduceSub, Nat.reduceBEq, Nat.reduceEqDiff, reduceCtorEq, Nat.reduceAdd, Nat.reduceSub, Nat.reduceMul, Nat.reduceLeDiff, Int.reduceToNat, Int.reduceLT, Int.reduceLE, Int.reduceNeg, e0, hw0, hln, t0, t1, t2, t3, t4, t5, t6, t7, t8, t9, t10, hsn]) | (with_reducible apply q_then) | (with_reducible apply q_blockN) | (with_reducible apply q_blockR) | (with_reducible apply q_thenR) | (with_reducible apply q_thenX) | (with_reducible apply q_blockX) | ((with_reducible apply q_blockY); · rfl))
  all_goals simp [Post0, ansW, resT, SRes.get, ES.fs, ES.kill, has, drp, seqO, nbeq, lk, I, S, TV.ids3, TV.ids2, TV.ids1, TV.ids0, TV.ren3, TV.ren2, TV.ren1, TV.ren0, ]
theorem sign_ct (g : Sh.Glob) (l : List UInt8) (b0 : UInt8) (hl : 0 < l.length) (e0 : l[0]? = some b0) (hc : 194 ≤ b0.toNat ∧ b0.toNat ≤ 223) (r : Int) (hs : 2 ≤ l.length) (ht : signTail g l 2 128 191 r) : SCalls Tryd.prog g 99 [S (str l)] [] (I r) [] := by
  refine call_of0 hmix tf_moraineref03_Sign rfl ?_
  have hw0 := wrap64 (x := (b0.toNat : Int)) (by have := u8_lt b0; omega) (by have := u8_lt b0; omega)
  have hln := decide_F (p := ((l.length : Int) = 0)) (by omega)
  have t0 := decide_F (p := ((b0.toNat : Int) < 128)) (by have := u8_lt b0; omega)
  have t1 := decide_T (p := (194 ≤ (b0.toNat : Int))) (by have := u8_lt b0; omega)
  have t2 := decide_T (p := ((b0.toNat : Int) ≤ 223)) (by have := u8_lt b0; omega)
  have t3 := decide_F (p := (224 ≤ (b0.toNat : Int))) (by have := u8_lt b0; omega)
  have t4 := decide_T (p := ((b0.toNat : Int) ≤ 239)) (by have := u8_lt b0; omega)
  have t5 := decide_F (p := (240 ≤ (b0.toNat : Int))) (by have := u8_lt b0; omega)
  have t6 := decide_T (p := ((b0.toNat : Int) ≤ 244)) (by have := u8_lt b0; omega)
  have t7 := decide_F (p := ((b0.toNat : Int) = 224)) (by have := u8_lt b0; omega)
  have t8 := decide_F (p := ((b0.toNat : Int) = 237)) (by have := u8_lt b0; omega)
  have t9 := decide_F (p := ((b0.toNat : Int) = 240)) (by have := u8_lt b0; omega)
  have t10 := decide_F (p := ((b0.toNat : Int) = 244)) (by have := u8_lt b0; omega)
  have hsn := decide_F (p := ((l.length : Int) < 2)) (by omega)
  repeat (first | (with_reducible apply w_unr) | (with_reducible apply w_assoc) | (with_reducible apply w_skip) | (with_reducible apply w_ret) | (with_reducible apply w_retE) | (with_reducible apply w_skipE) | (with_reducible apply w_exit) | (with_reducible apply w_exitE) | (with_reducible apply w_block) | (with_reducible apply w_blockE) | ((with_reducible apply w_reg); · simp only [shA, eff, Int.reduceEq, Int.reduceAdd, Int.reduceSub, Nat.reduceBEq, Nat.reduceEqDiff, reduceCtorEq, Nat.reduceAdd, Nat.reduceSub, Nat.reduceMul, Nat.reduceLeDiff, Int.reduceToNat, Int.reduceLT, Int.reduceLE, Int.reduceNeg, e0, hw0, hln, t0, t1, t2, t3, t4, t5, t6, t7, t8, t9, t10, hsn]; with_reducible rfl) | ((with_reducible apply w_regE); · simp only [shA, eff, Int.reduceEq, Int.reduceAdd, Int.reduceSub, Nat.reduceBEq, Nat.reduceEqDiff, reduceCtorEq, Nat.reduceAdd, Nat.reduceSub, Nat.reduceMul, Nat.reduceLeDiff, Int.reduceToNat, Int.reduceLT, Int.reduceLE, Int.reduceNeg, e0, hw0, hln, t0, t1, t2, t3, t4, t5, t6, t7, t8, t9, t10, hsn]; with_reducible rfl) | ((with_reducible apply w_condT); · simp only [shA, eff, Int.reduceEq, Int.reduceAdd, Int.reduceSub, Nat.reduceBEq, Nat.reduceEqDiff, reduceCtorEq, Nat.reduceAdd, Nat.reduceSub, Nat.reduceMul, Nat.reduceLeDiff, Int.reduceToNat, Int.reduceLT, Int.reduceLE, Int.reduceNeg, e0, hw0, hln, t0, t1, t2, t3, t4, t5, t6, t7, t8, t9, t10, hsn]) | ((with_reducible apply w_condF); · simp only [shA, eff, Int.reduceEq, Int.reduceAdd, Int.reduceSub, Nat.reduceBEq, Nat.reduceEqDiff, reduceCtorEq, Nat.reduceAdd, Nat.reduceSub, Nat.reduceMul, Nat.reduceLeDiff, Int.reduceToNat, Int.reduceLT, Int.reduceLE, Int.reduceNeg, e0, hw0, hln, t0, t1, t2, t3, t4, t5, t6, t7, t8, t9, t10, hsn]) | ((with_reducible apply w_condTE); · simp only [shA, eff, Int.reduceEq, Int.reduceAdd, Int.reduceSub, Nat.reduceBEq, Nat.reduceEqDiff, reduceCtorEq, Nat.reduceAdd, Nat.reduceSub, Nat.reduceMul, Nat.reduceLeDiff, Int.reduceToNat, Int.reduceLT, Int.reduceLE, Int.reduceNeg, e0, hw0, hln, t0, t1, t2, t3, t4, t5, t6, t7, t8, t9, t10, hsn]) | ((with_reducible apply w_condFE); · simp only [shA, eff, Int.reduceEq, Int.reduceAdd, Int.reduceSub, Nat.reduceBEq, Nat.reduceEqDiff, reduceCtorEq, Nat.reduceAdd, Nat.reduceSub, Nat.reduceMul, Nat.reduceLeDiff, Int.reduceToNat, Int.reduceLT, Int.reduceLE, Int.reduceNeg, e0, hw0, hln, t0, t1, t2, t3, t4, t5, t6, t7, t8, t9, t10, hsn]) | (with_reducible apply q_then) | (with_reducible apply q_blockN) | (with_reducible apply q_blockR) | (with_reducible apply q_thenR) | (with_reducible apply q_thenX) | (with_reducible apply q_blockX) | ((with_reducible apply q_blockY); · rfl))
  first | exact ht _ (.inl rfl) | exact ht _ (.inr rfl)
theorem sign_ds (g : Sh.Glob) (l : List UInt8) (b0 : UInt8) (hl : 0 < l.length) (e0 : l[0]? = some b0) (hc : b0.toNat = 224) (hs : l.length < 3) : SCalls Tryd.prog g 99 [S (str l)] [] (I 0) [] := by
  refine call_of0 hmix tf_moraineref03_Sign rfl ?_
  have hw0 := wrap64 (x := (b0.toNat : Int)) (by have := u8_lt b0; omega) (by have := u8_lt b0; omega)
  have hln := decide_F (p := ((l.length : Int) = 0)) (by omega)
  have t0 := decide_F (p := ((b0.toNat : Int) < 128)) (by have := u8_lt b0; omega)
  have t1 := decide_T (p := (194 ≤ (b0.toNat : Int))) (by have := u8_lt b0; omega)
  have t2 := decide_F (p := ((b0.toNat : Int) ≤ 223)) (by have := u8_lt b0; omega)
  have t3 := decide_T (p := (224 ≤ (b0.toNat : Int))) (by have := u8_lt b0; omega)
  have t4 := decide_T (p := ((b0.toNat : Int) ≤ 239)) (by have := u8_lt b0; omega)
  have t5 := decide_F (p := (240 ≤ (b0.toNat : Int))) (by have := u8_lt b0; omega)
  have t6 := decide_T (p := ((b0.toNat : Int) ≤ 244)) (by have := u8_lt b0; omega)
  have t7 := decide_T (p := ((b0.toNat : Int) = 224)) (by have := u8_lt b0; omega)
  have t8 := decide_F (p := ((b0.toNat : Int) = 237)) (by have := u8_lt b0; omega)
  have t9 := decide_F (p := ((b0.toNat : Int) = 240)) (by have := u8_lt b0; omega)
  have t10 := decide_F (p := ((b0.toNat : Int) = 244)) (by have := u8_lt b0; omega)
  have hsn := decide_T (p := ((l.length : Int) < 3)) (by omega)
  repeat (first | (with_reducible apply w_unr) | (with_reducible apply w_assoc) | (with_reducible apply w_skip) | (with_reducible apply w_ret) | (with_reducible apply w_retE) | (with_reducible apply w_skipE) | (with_reducible apply w_exit) | (with_reducible apply w_exitE) | (with_reducible apply w_block) | (with_reducible apply w_blockE) | ((with_reducible apply w_reg); · simp only [shA, eff, Int.reduceEq, Int.reduceAdd, Int.reduceSub, Nat.reduceBEq, Nat.reduceEqDiff, reduceCtorEq, Nat.reduceAdd, Nat.reduceSub, Nat.reduceMul, Nat.reduceLeDiff, Int.reduceToNat, Int.reduceLT, Int.reduceLE, Int.reduceNeg, e0, hw0, hln, t0, t1, t2, t3, t4, t5, t6, t7, t8, t9, t10, hsn]; with_reducible rfl) | ((with_reducible apply w_regE); · simp only [shA, eff, Int.reduceEq, Int.reduceAdd, Int.reduceSub, Nat.reduceBEq, Nat.reduceEqDiff, reduceCtorEq, Nat.reduceAdd, Nat.reduceSub, Nat.reduceMul, Nat.reduceLeDiff, Int.reduceToNat, Int.reduceLT, Int.reduceLE, Int.reduceNeg, e0, hw0, hln, t0, t1, t2, t3, t4, t5, t6, t7, t8, t9, t10, hsn]; with_reducible rfl) | ((with_reducible apply w_condT); · simp only [shA, eff, Int.reduceEq, Int.reduceAdd, Int.reduceSub, Nat.reduceBEq, Nat.reduceEqDiff, reduceCtorEq, Nat.reduceAdd, Nat.reduceSub, Nat.reduceMul, Nat.reduceLeDiff, Int.reduceToNat, Int.reduceLT, Int.reduceLE, Int.reduceNeg, e0, hw0, hln, t0, t1, t2, t3, t4, t5, t6, t7, t8, t9, t10, hsn]) | ((with_reducible apply w_condF); · simp only [shA, eff, Int.reduceEq, Int.reduceAdd, Int.reduceSub, Nat.reduceBEq, Nat.reduceEqDiff, reduceCtorEq, Nat.reduceAdd, Nat.reduceSub, Nat.reduceMul, Nat.reduceLeDiff, Int.reduceToNat, Int.reduceLT, Int.reduceLE, Int.reduceNeg, e0, hw0, hln, t0, t1, t2, t3, t4, t5, t6, t7, t8, t9, t10, hsn]) | ((with_reducible apply w_condTE); · simp only [shA, eff, Int.reduceEq, Int.reduceAdd, Int.reduceSub, Nat.reduceBEq, Nat.reduceEqDiff, reduceCtorEq, Nat.reduceAdd, Nat.reduceSub, Nat.reduceMul, Nat.reduceLeDiff, Int.reduceToNat, Int.reduceLT, Int.reduceLE, Int.reduceNeg, e0, hw0, hln, t0, t1, t2, t3, t4, t5, t6, t7, t8, t9, t10, hsn]) | ((with_reducible apply w_condFE); · simp only [shA, eff, Int.reduceEq, Int.reduceAdd, Int.reduceSub, Nat.reduceBEq, Nat.reduceEqDiff, reduceCtorEq, Nat.reduceAdd, Nat.reduceSub, Nat.reduceMul, Nat.reduceLeDiff, Int.reduceToNat, Int.reduceLT, Int.reduceLE, Int.reduceNeg, e0, hw0, hln, t0, t1, t2, t3, t4, t5, t6, t7, t8, t9, t10, hsn]) | (with_reducible apply q_then) | (with_reducible apply q_blockN) | (with_reducible apply q_blockR) | (with_reducible apply q_thenR) | (with_reducible apply q_thenX) | (with_reducible apply q_blockX) | ((with_reducible apply q_blockY); · rfl))
  all_goals simp [Post0, ansW, resT, SRes.get, ES.fs, ES.kill, has, drp, seqO, nbeq, lk, I, S, TV.ids3, TV.ids2, TV.ids1, TV.ids0, TV.ren3, TV.ren2, TV.ren1, TV.ren0, ]
theorem sign_dt (g : Sh.Glob) (l : List UInt8) (b0 : UInt8) (hl : 0 < l.length) (e0 : l[0]? = some b0) (hc : b0.toNat = 224) (r : Int) (hs : 3 ≤ l.length) (ht : signTail g l 3 160 191 r) : SCalls Tryd.prog g 99 [S (str l)] [] (I r) [] := by
  refine call_of0 hmix tf_moraineref03_Sign rfl ?_
  have hw0 := wrap64 (x := (b0.toNat : Int)) (by have := u8_lt b0; omega) (by have := u8_lt b0; omega)
  have hln := decide_F (p := ((l.length : Int) = 0)) (by omega)
  have t0 := decide_F (p := ((b0.toNat : Int) < 128)) (by have := u8_lt b0; omega)
  have t1 := decide_T (p := (194 ≤ (b0.toNat : Int))) (by have := u8_lt b0; omega)
  have t2 := decide_F (p := ((b0.toNat : Int) ≤ 223)) (by have := u8_lt b0; omega)
  have t3 := decide_T (p := (224 ≤ (b0.toNat : Int))) (by have := u8_lt b0; omega)
  have t4 := decide_T (p := ((b0.toNat : Int) ≤ 239)) (by have := u8_lt b0; omega)
  have t5 := decide_F (p := (240 ≤ (b0.toNat : Int))) (by have := u8_lt b0; omega)
  have t6 := decide_T (p := ((b0.toNat : Int) ≤ 244)) (by have := u8_lt b0; omega)
  have t7 := decide_T (p := ((b0.toNat : Int) = 224)) (by have := u8_lt b0; omega)
  have t8 := decide_F (p := ((b0.toNat : Int) = 237)) (by have := u8_lt b0; omega)
  have t9 := decide_F (p := ((b0.toNat : Int) = 240)) (by have := u8_lt b0; omega)
  have t10 := decide_F (p := ((b0.toNat : Int) = 244)) (by have := u8_lt b0; omega)
  have hsn := decide_F (p := ((l.length : Int) < 3)) (by omega)
  repeat (first | (with_reducible apply w_unr) | (with_reducible apply w_assoc) | (with_reducible apply w_skip) | (with_reducible apply w_ret) | (with_reducible apply w_retE) | (with_reducible apply w_skipE) | (with_reducible apply w_exit) | (with_reducible apply w_exitE) | (with_reducible apply w_block) | (with_reducible apply w_blockE) | ((with_reducible apply w_reg); · simp only [shA, eff, Int.reduceEq, Int.reduceAdd, Int.reduceSub, Nat.reduceBEq, Nat.reduceEqDiff, reduceCtorEq, Nat.reduceAdd, Nat.reduceSub, Nat.reduceMul, Nat.reduceLeDiff, Int.reduceToNat, Int.reduceLT, Int.reduceLE, Int.reduceNeg, e0, hw0, hln, t0, t1, t2, t3, t4, t5, t6, t7, t8, t9, t10, hsn]; with_reducible rfl) | ((with_reducible apply w_regE); · simp only [shA, eff, Int.reduceEq, Int.reduceAdd, Int.reduceSub, Nat.reduceBEq, Nat.reduceEqDiff, reduceCtorEq, Nat.reduceAdd, Nat.reduceSub, Nat.reduceMul, Nat.reduceLeDiff, Int.reduceToNat, Int.reduceLT, Int.reduceLE, Int.reduceNeg, e0, hw0, hln, t0, t1, t2, t3, t4, t5, t6, t7, t8, t9, t10, hsn]; with_reducible rfl) | ((with_reducible apply w_condT); · simp only [shA, eff, Int.reduceEq, Int.reduceAdd, Int.reduceSub, Nat.reduceBEq, Nat.reduceEqDiff, reduceCtorEq, Nat.reduceAdd, Nat.reduceSub, Nat.reduceMul, Nat.reduceLeDiff, Int.reduceToNat, Int.reduceLT, Int.reduceLE, Int.reduceNeg, e0, hw0, hln, t0, t1, t2, t3, t4, t5, t6, t7, t8, t9, t10, hsn]) | ((with_reducible apply w_condF); · simp only [shA, eff, Int.reduceEq, Int.reduceAdd, Int.reduceSub, Nat.reduceBEq, Nat.reduceEqDiff, reduceCtorEq, Nat.reduceAdd, Nat.reduceSub, Nat.reduceMul, Nat.reduceLeDiff, Int.reduceToNat, Int.reduceLT, Int.reduceLE, Int.reduceNeg, e0, hw0, hln, t0, t1, t2, t3, t4, t5, t6, t7, t8, t9, t10, hsn]) | ((with_reducible apply w_condTE); · simp only [shA, eff, Int.reduceEq, Int.reduceAdd, Int.reduceSub, Nat.reduceBEq, Nat.reduceEqDiff, reduceCtorEq, Nat.reduceAdd, Nat.reduceSub, Nat.reduceMul, Nat.reduceLeDiff, Int.reduceToNat, Int.reduceLT, Int.reduceLE, Int.reduceNeg, e0, hw0, hln, t0, t1, t2, t3, t4, t5, t6, t7, t8, t9, t10, hsn]) | ((with_reducible apply w_condFE); · simp only [shA, eff, Int.reduceEq, Int.reduceAdd, Int.reduceSub, Nat.reduceBEq, Nat.reduceEqDiff, reduceCtorEq, Nat.reduceAdd, Nat.reduceSub, Nat.reduceMul, Nat.reduceLeDiff, Int.reduceToNat, Int.reduceLT, Int.reduceLE, Int.reduceNeg, e0, hw0, hln, t0, t1, t2, t3, t4, t5, t6, t7, t8, t9, t10, hsn]) | (with_reducible apply q_then) | (with_reducible apply q_blockN) | (with_reducible apply q_blockR) | (with_reducible apply q_thenR) | (with_reducible apply q_thenX) | (with_reducible apply q_blockX) | ((with_reducible apply q_blockY); · rfl))
  first | exact ht _ (.inl rfl) | exact ht _ (.inr rfl)
theorem sign_es (g : Sh.Glob) (l : List UInt8) (b0 : UInt8) (hl : 0 < l.length) (e0 : l[0]? = some b0) (hc : 225 ≤ b0.toNat ∧ b0.toNat ≤ 239 ∧ b0.toNat ≠ 237) (hs : l.length < 3) : SCalls Tryd.prog g 99 [S (str l)] [] (I 0) [] := by
  refine call_of0 hmix tf_moraineref03_Sign rfl ?_
  have hw0 := wrap64 (x := (b0.toNat : Int)) (by have := u8_lt b0; omega) (by have := u8_lt b0; omega)
  have hln := decide_F (p := ((l.length : Int) = 0)) (by omega)
  have t0 := decide_F (p := ((b0.toNat : Int) < 128)) (by have := u8_lt b0; omega)
  have t1 := decide_T (p := (194 ≤ (b0.toNat : Int))) (by have := u8_lt b0; omega)
  have t2 := decide_F (p := ((b0.toNat : Int) ≤ 223)) (by have := u8_lt b0; omega)
  have t3 := decide_T (p := (224 ≤ (b0.toNat : Int))) (by have := u8_lt b0; omega)
  have t4 := decide_T (p := ((b0.toNat : Int) ≤ 239)) (by have := u8_lt b0; omega)
  have t5 := decide_F (p := (240 ≤ (b0.toNat : Int))) (by have := u8_lt b0; omega)
  have t6 := decide_T (p := ((b0.toNat : Int) ≤ 244)) (by have := u8_lt b0; omega)
  have t7 := decide_F (p := ((b0.toNat : Int) = 224)) (by have := u8_lt b0; omega)
  have t8 := decide_F (p := ((b0.toNat : Int) = 237)) (by have := u8_lt b0; omega)
  have t9 := decide_F (p := ((b0.toNat : Int) = 240)) (by have := u8_lt b0; omega)
  have t10 := decide_F (p := ((b0.toNat : Int) = 244)) (by have := u8_lt b0; omega)
  have hsn := decide_T (p := ((l.length : Int) < 3)) (by omega)
  repeat (first | (with_reducible apply w_unr) | (with_reducible apply w_assoc) | (with_reducible apply w_skip) | (with_reducible apply w_ret) | (with_reducible apply w_retE) | (with_reducible apply w_skipE) | (with_reducible apply w_exit) | (with_reducible apply w_exitE) | (with_reducible apply w_block) | (with_reducible apply w_blockE) | ((with_reducible apply w_reg); · simp only [shA, eff, Int.reduceEq, Int.reduceAdd, Int.reduceSub, Nat.reduceBEq, Nat.reduceEqDiff, reduceCtorEq, Nat.reduceAdd, Nat.reduceSub, Nat.reduceMul, Nat.reduceLeDiff, Int.reduceToNat, Int.reduceLT, Int.reduceLE, Int.reduceNeg, e0, hw0, hln, t0, t1, t2, t3, t4, t5, t6, t7, t8, t9, t10, hsn]; with_reducible rfl) | ((with_reducible apply w_regE); · simp only [shA, eff, Int.reduceEq, Int.reduceAdd, Int.reduceSub, Nat.reduceBEq, Nat.reduceEqDiff, reduceCtorEq, Nat.reduceAdd, Nat.reduceSub, Nat.reduceMul, Nat.reduceLeDiff, Int.reduceToNat, Int.reduceLT, Int.reduceLE, Int.reduceNeg, e0, hw0, hln, t0, t1, t2, t3, t4, t5, t6, t7, t8, t9, t10, hsn]; with_reducible rfl) | ((with_reducible apply w_condT); · simp only [shA, eff, Int.reduceEq, Int.reduceAdd, Int.reduceSub, Nat.reduceBEq, Nat.reduceEqDiff, reduceCtorEq, Nat.reduceAdd, Nat.reduceSub, Nat.reduceMul, Nat.reduceLeDiff, Int.reduceToNat, Int.reduceLT, Int.reduceLE, Int.reduceNeg, e0, hw0, hln, t0, t1, t2, t3, t4, t5, t6, t7, t8, t9, t10, hsn]) | ((with_reducible apply w_condF); · simp only [shA, eff, Int.reduceEq, Int.reduceAdd, Int.reduceSub, Nat.reduceBEq, Nat.reduceEqDiff, reduceCtorEq, Nat.reduceAdd, Nat.reduceSub, Nat.reduceMul, Nat.reduceLeDiff, Int.reduceToNat, Int.reduceLT, Int.reduceLE, Int.reduceNeg, e0, hw0, hln, t0, t1, t2, t3, t4, t5, t6, t7, t8, t9, t10, hsn]) | ((with_reducible apply w_condTE); · simp only [shA, eff, Int.reduceEq, Int.reduceAdd, Int.reduceSub, Nat.reduceBEq, Nat.reduceEqDiff, reduceCtorEq, Nat.reduceAdd, Nat.reduceSub, Nat.reduceMul, Nat.reduceLeDiff, Int.reduceToNat, Int.reduceLT, Int.reduceLE, Int.reduceNeg, e0, hw0, hln, t0, t1, t2, t3, t4, t5, t6, t7, t8, t9, t10, hsn]) | ((with_reducible apply w_condFE); · simp only [shA, eff, Int.reduceEq, Int.reduceAdd, Int.reduceSub, Nat.reduceBEq, Nat.reduceEqDiff, reduceCtorEq, Nat.reduceAdd, Nat.reduceSub, Nat.reduceMul, Nat.reduceLeDiff, Int.reduceToNat, Int.reduceLT, Int.reduceLE, Int.reduceNeg, e0, hw0, hln, t0, t1, t2, t3, t4, t5, t6, t7, t8, t9, t10, hsn]) | (with_reducible apply q_then) | (with_reducible apply q_blockN) | (with_reducible apply q_blockR) | (with_reducible apply q_thenR) | (with_reducible apply q_thenX) | (with_reducible apply q_blockX) | ((with_reducible apply q_blockY); · rfl))
  all_goals simp [Post0, ansW, resT, SRes.get, ES.fs, ES.kill, has, drp, seqO, nbeq, lk, I, S, TV.ids3, TV.ids2, TV.ids1, TV.ids0, TV.ren3, TV.ren2, TV.ren1, TV.ren0, ]
theorem sign_et (g : Sh.Glob) (l : List UInt8) (b0 : UInt8) (hl : 0 < l.length) (e0 : l[0]? = some b0) (hc : 225 ≤ b0.toNat ∧ b0.toNat ≤ 239 ∧ b0.toNat ≠ 237) (r : Int) (hs : 3 ≤ l.length) (ht : signTail g l 3 128 191 r) : SCalls Tryd.prog g 99 [S (str l)] [] (I r) [] := by
  refine call_of0 hmix tf_moraineref03_Sign rfl ?_
  have hw0 := wrap64 (x := (b0.toNat : Int)) (by have := u8_lt b0; omega) (by have := u8_lt b0; omega)
  have hln := decide_F (p := ((l.length : Int) = 0)) (by omega)
  have t0 := decide_F (p := ((b0.toNat : Int) < 128)) (by have := u8_lt b0; omega)
  have t1 := decide_T (p := (194 ≤ (b0.toNat : Int))) (by have := u8_lt b0; omega)
  have t2 := decide_F (p := ((b0.toNat : Int) ≤ 223)) (by have := u8_lt b0; omega)
  have t3 := decide_T (p := (224 ≤ (b0.toNat : Int))) (by have := u8_lt b0; omega)
  have t4 := decide_T (p := ((b0.toNat : Int) ≤ 239)) (by have := u8_lt b0; omega)
  have t5 := decide_F (p := (240 ≤ (b0.toNat : Int))) (by have := u8_lt b0; omega)
  have t6 := decide_T (p := ((b0.toNat : Int) ≤ 244)) (by have := u8_lt b0; omega)
  have t7 := decide_F (p := ((b0.toNat : Int) = 224)) (by have := u8_lt b0; omega)
  have t8 := decide_F (p := ((b0.toNat : Int) = 237)) (by have := u8_lt b0; omega)
  have t9 := decide_F (p := ((b0.toNat : Int) = 240)) (by have := u8_lt b0; omega)
  have t10 := decide_F (p := ((b0.toNat : Int) = 244)) (by have := u8_lt b0; omega)
  have hsn := decide_F (p := ((l.length : Int) < 3)) (by omega)
  repeat (first | (with_reducible apply w_unr) | (with_reducible apply w_assoc) | (with_reducible apply w_skip) | (with_reducible apply w_ret) | (with_reducible apply w_retE) | (with_reducible apply w_skipE) | (with_reducible apply w_exit) | (with_reducible apply w_exitE) | (with_reducible apply w_block) | (with_reducible apply w_blockE) | ((with_reducible apply w_reg); · simp only [shA, eff, Int.reduceEq, Int.reduceAdd, Int.reduceSub, Nat.reduceBEq, Nat.reduceEqDiff, reduceCtorEq, Nat.reduceAdd, Nat.reduceSub, Nat.reduceMul, Nat.reduceLeDiff, Int.reduceToNat, Int.reduceLT, Int.reduceLE, Int.reduceNeg, e0, hw0, hln, t0, t1, t2, t3, t4, t5, t6, t7, t8, t9, t10, hsn]; with_reducible rfl) | ((with_reducible apply w_regE); · simp only [shA, eff, Int.reduceEq, Int.reduceAdd, Int.reduceSub, Nat.reduceBEq, Nat.reduceEqDiff, reduceCtorEq, Nat.reduceAdd, Nat.reduceSub, Nat.reduceMul, Nat.reduceLeDiff, Int.reduceToNat, Int.reduceLT, Int.reduceLE, Int.reduceNeg, e0, hw0, hln, t0, t1, t2, t3, t4, t5, t6, t7, t8, t9, t10, hsn]; with_reducible rfl) | ((with_reducible apply w_condT); · simp only [shA, eff, Int.reduceEq, Int.reduceAdd, Int.reduceSub, Nat.reduceBEq, Nat.reduceEqDiff, reduceCtorEq, Nat.reduceAdd, Nat.reduceSub, Nat.reduceMul, Nat.reduceLeDiff, Int.reduceToNat, Int.reduceLT, Int.reduceLE, Int.reduceNeg, e0, hw0, hln, t0, t1, t2, t3, t4, t5, t6, t7, t8, t9, t10, hsn]) | ((with_reducible apply w_condF); · simp only [shA, eff, Int.reduceEq, Int.reduceAdd, Int.reduceSub, Nat.reduceBEq, Nat.reduceEqDiff, reduceCtorEq, Nat.reduceAdd, Nat.reduceSub, Nat.reduceMul, Nat.reduceLeDiff, Int.reduceToNat, Int.reduceLT, Int.reduceLE, Int.reduceNeg, e0, hw0, hln, t0, t1, t2, t3, t4, t5, t6, t7, t8, t9, t10, hsn]) | ((with_reducible apply w_condTE); · simp only [shA, eff, Int.reduceEq, Int.reduceAdd, Int.reduceSub, Nat.reduceBEq, Nat.reduceEqDiff, reduceCtorEq, Nat.reduceAdd, Nat.reduceSub, Nat.reduceMul, Nat.reduceLeDiff, Int.reduceToNat, Int.reduceLT, Int.reduceLE, Int.reduceNeg, e0, hw0, hln, t0, t1, t2, t3, t4, t5, t6, t7, t8, t9, t10, hsn]) | ((with_reducible apply w_condFE); · simp only [shA, eff, Int.reduceEq, Int.reduceAdd, Int.reduceSub, Nat.reduceBEq, Nat.reduceEqDiff, reduceCtorEq, Nat.reduceAdd, Nat.reduceSub, Nat.reduceMul, Nat.reduceLeDiff, Int.reduceToNat, Int.reduceLT, Int.reduceLE, Int.reduceNeg, e0, hw0, hln, t0, t1, t2, t3, t4, t5, t6, t7, t8, t9, t10, hsn]) | (with_reducible apply q_then) | (with_reducible apply q_blockN) | (with_reducible apply q_blockR) | (with_reducible apply q_thenR) | (with_reducible apply q_thenX) | (with_reducible apply q_blockX) | ((with_reducible apply q_blockY); · rfl))
  first | exact ht _ (.inl rfl) | exact ht _ (.inr rfl)
theorem sign_fs (g : Sh.Glob) (l : List UInt8) (b0 : UInt8) (hl : 0 < l.length) (e0 : l[0]? = some b0) (hc : b0.toNat = 237) (hs : l.length < 3) : SCalls Tryd.prog g 99 [S (str l)] [] (I 0) [] := by
  refine call_of0 hmix tf_moraineref03_Sign rfl ?_
  have hw0 := wrap64 (x := (b0.toNat : Int)) (by have := u8_lt b0; omega) (by have := u8_lt b0; omega)
  have hln := decide_F (p := ((l.length : Int) = 0)) (by omega)
  have t0 := decide_F (p := ((b0.toNat : Int) < 128)) (by have := u8_lt b0; omega)
  have t1 := decide_T (p := (194 ≤ (b0.toNat : Int))) (by have := u8_lt b0; omega)
  have t2 := decide_F (p := ((b0.toNat : Int) ≤ 223)) (by have := u8_lt b0; omega)
  have t3 := decide_T (p := (224 ≤ (b0.toNat : Int))) (by have := u8_lt b0; omega)
  have t4 := decide_T (p := ((b0.toNat : Int) ≤ 239)) (by have := u8_lt b0; omega)
  have t5 := decide_F (p := (240 ≤ (b0.toNat : Int))) (by have := u8_lt b0; omega)
  have t6 := decide_T (p := ((b0.toNat : Int) ≤ 244)) (by have := u8_lt b0; omega)
  have t7 := decide_F (p := ((b0.toNat : Int) = 224)) (by have := u8_lt b0; omega)
  have t8 := decide_T (p := ((b0.toNat : Int) = 237)) (by have := u8_lt b0; omega)
  have t9 := decide_F (p := ((b0.toNat : Int) = 240)) (by have := u8_lt b0; omega)
  have t10 := decide_F (p := ((b0.toNat : Int) = 244)) (by have := u8_lt b0; omega)
  have hsn := decide_T (p := ((l.length : Int) < 3)) (by omega)
  repeat (first | (with_reducible apply w_unr) | (with_reducible apply w_assoc) | (with_reducible apply w_skip) | (with_reducible apply w_ret) | (with_reducible apply w_retE) | (with_reducible apply w_skipE) | (with_reducible apply w_exit) | (with_reducible apply w_exitE) | (with_reducible apply w_block) | (with_reducible apply w_blockE) | ((with_reducible apply w_reg); · simp only [shA, eff, Int.reduceEq, Int.reduceAdd, Int.reduceSub, Nat.reduceBEq, Nat.reduceEqDiff, reduceCtorEq, Nat.reduceAdd, Nat.reduceSub, Nat.reduceMul, Nat.reduceLeDiff, Int.reduceToNat, Int.reduceLT, Int.reduceLE, Int.reduceNeg, e0, hw0, hln, t0, t1, t2, t3, t4, t5, t6, t7, t8, t9, t10, hsn]; with_reducible rfl) | ((with_reducible apply w_regE); · simp only [shA, eff, Int.reduceEq, Int.reduceAdd, Int.reduceSub, Nat.reduceBEq, Nat.reduceEqDiff, reduceCtorEq, Nat.reduceAdd, Nat.reduceSub, Nat.reduceMul, Nat.reduceLeDiff, Int.reduceToNat, Int.reduceLT, Int.reduceLE, Int.reduceNeg, e0, hw0, hln, t0, t1, t2, t3, t4, t5, t6, t7, t8, t9, t10, hsn]; with_reducible rfl) | ((with_reducible apply w_condT); · simp only [shA, eff, Int.reduceEq, Int.reduceAdd, Int.reduceSub, Nat.reduceBEq, Nat.reduceEqDiff, reduceCtorEq, Nat.reduceAdd, Nat.reduceSub, Nat.reduceMul, Nat.reduceLeDiff, Int.reduceToNat, Int.reduceLT, Int.reduceLE, Int.reduceNeg, e0, hw0, hln, t0, t1, t2, t3, t4, t5, t6, t7, t8, t9, t10, hsn]) | ((with_reducible apply w_condF); · simp only [shA, eff, Int.reduceEq, Int.reduceAdd, Int.reduceSub, Nat.reduceBEq, Nat.reduceEqDiff, reduceCtorEq, Nat.reduceAdd, Nat.reduceSub, Nat.reduceMul, Nat.reduceLeDiff, Int.reduceToNat, Int.reduceLT, Int.reduceLE, Int.reduceNeg, e0, hw0, hln, t0, t1, t2, t3, t4, t5, t6, t7, t8, t9, t10, hsn]) | ((with_reducible apply w_condTE); · simp only [shA, eff, Int.reduceEq, Int.reduceAdd, Int.reduceSub, Nat.reduceBEq, Nat.reduceEqDiff, reduceCtorEq, Nat.reduceAdd, Nat.reduceSub, Nat.reduceMul, Nat.reduceLeDiff, Int.reduceToNat, Int.reduceLT, Int.reduceLE, Int.reduceNeg, e0, hw0, hln, t0, t1, t2, t3, t4, t5, t6, t7, t8, t9, t10, hsn]) | ((with_reducible apply w_condFE); · simp only [shA, eff, Int.reduceEq, Int.reduceAdd, Int.reduceSub, Nat.reduceBEq, Nat.reduceEqDiff, reduceCtorEq, Nat.reduceAdd, Nat.reduceSub, Nat.reduceMul, Nat.reduceLeDiff, Int.reduceToNat, Int.reduceLT, Int.reduceLE, Int.reduceNeg, e0, hw0, hln, t0, t1, t2, t3, t4, t5, t6, t7, t8, t9, t10, hsn]) | (with_reducible apply q_then) | (with_reducible apply q_blockN) | (with_reducible apply q_blockR) | (with_reducible apply q_thenR) | (with_reducible apply q_thenX) | (with_reducible apply q_blockX) | ((with_reducible apply q_blockY); · rfl))
  all_goals simp [Post0, ansW, resT, SRes.get, ES.fs, ES.kill, has, drp, seqO, nbeq, lk, I, S, TV.ids3, TV.ids2, TV.ids1, TV.ids0, TV.ren3, TV.ren2, TV.ren1, TV.ren0, ]
theorem sign_ft (g : Sh.Glob) (l : List UInt8) (b0 : UInt8) (hl : 0 < l.length) (e0 : l[0]? = some b0) (hc : b0.toNat = 237) (r : Int) (hs : 3 ≤ l.length) (ht : signTail g l 3 128 159 r) : SCalls Tryd.prog g 99 [S (str l)] [] (I r) [] := by
  refine call_of0 hmix tf_moraineref03_Sign rfl ?_
  have hw0 := wrap64 (x := (b0.toNat : Int)) (by have := u8_lt b0; omega) (by have := u8_lt b0; omega)
  have hln := decide_F (p := ((l.length : Int) = 0)) (by omega)
  have t0 := decide_F (p := ((b0.toNat : Int) < 128)) (by have := u8_lt b0; omega)
  have t1 := decide_T (p := (194 ≤ (b0.toNat : Int))) (by have := u8_lt b0; omega)
  have t2 := decide_F (p := ((b0.toNat : Int) ≤ 223)) (by have := u8_lt b0; omega)
  have t3 := decide_T (p := (224 ≤ (b0.toNat : Int))) (by have := u8_lt b0; omega)
  have t4 := decide_T (p := ((b0.toNat : Int) ≤ 239)) (by have := u8_lt b0; omega)
  have t5 := decide_F (p := (240 ≤ (b0.toNat : Int))) (by have := u8_lt b0; omega)
  have t6 := decide_T (p := ((b0.toNat : Int) ≤ 244)) (by have := u8_lt b0; omega)
  have t7 := decide_F (p := ((b0.toNat : Int) = 224)) (by have := u8_lt b0; omega)
  have t8 := decide_T (p := ((b0.toNat : Int) = 237)) (by have := u8_lt b0; omega)
  have t9 := decide_F (p := ((b0.toNat : Int) = 240)) (by have := u8_lt b0; omega)
  have t10 := decide_F (p := ((b0.toNat : Int) = 244)) (by have := u8_lt b0; omega)
  have hsn := decide_F (p := ((l.length : Int) < 3)) (by omega)
  repeat (first | (with_reducible apply w_unr) | (with_reducible apply w_assoc) | (with_reducible apply w_skip) | (with_reducible apply w_ret) | (with_reducible apply w_retE) | (with_reducible apply w_skipE) | (with_reducible apply w_exit) | (with_reducible apply w_exitE) | (with_reducible apply w_block) | (with_reducible apply w_blockE) | ((with_reducible apply w_reg); · simp only [shA, eff, Int.reduceEq, Int.reduceAdd, Int.reduceSub, Nat.reduceBEq, Nat.reduceEqDiff, reduceCtorEq, Nat.reduceAdd, Nat.reduceSub, Nat.reduceMul, Nat.reduceLeDiff, Int.reduceToNat, Int.reduceLT, Int.reduceLE, Int.reduceNeg, e0, hw0, hln, t0, t1, t2, t3, t4, t5, t6, t7, t8, t9, t10, hsn]; with_reducible rfl) | ((with_reducible apply w_regE); · simp only [shA, eff, Int.reduceEq, Int.reduceAdd, Int.reduceSub, Nat.reduceBEq, Nat.reduceEqDiff, reduceCtorEq, Nat.reduceAdd, Nat.reduceSub, Nat.reduceMul, Nat.reduceLeDiff, Int.reduceToNat, Int.reduceLT, Int.reduceLE, Int.reduceNeg, e0, hw0, hln, t0, t1, t2, t3, t4, t5, t6, t7, t8, t9, t10, hsn]; with_reducible rfl) | ((with_reducible apply w_condT); · simp only [shA, eff, Int.reduceEq, Int.reduceAdd, Int.reduceSub, Nat.reduceBEq, Nat.reduceEqDiff, reduceCtorEq, Nat.reduceAdd, Nat.reduceSub, Nat.reduceMul, Nat.reduceLeDiff, Int.reduceToNat, Int.reduceLT, Int.reduceLE, Int.reduceNeg, e0, hw0, hln, t0, t1, t2, t3, t4, t5, t6, t7, t8, t9, t10, hsn]) | ((with_reducible apply w_condF); · simp only [shA, eff, Int.reduceEq, Int.reduceAdd, Int.reduceSub, Nat.reduceBEq, Nat.reduceEqDiff, reduceCtorEq, Nat.reduceAdd, Nat.reduceSub, Nat.reduceMul, Nat.reduceLeDiff, Int.reduceToNat, Int.reduceLT, Int.reduceLE, Int.reduceNeg, e0, hw0, hln, t0, t1, t2, t3, t4, t5, t6, t7, t8, t9, t10, hsn]) | ((with_reducible apply w_condTE); · simp only [shA, eff, Int.reduceEq, Int.reduceAdd, Int.reduceSub, Nat.reduceBEq, Nat.reduceEqDiff, reduceCtorEq, Nat.reduceAdd, Nat.reduceSub, Nat.reduceMul, Nat.reduceLeDiff, Int.reduceToNat, Int.reduceLT, Int.reduceLE, Int.reduceNeg, e0, hw0, hln, t0, t1, t2, t3, t4, t5, t6, t7, t8, t9, t10, hsn]) | ((with_reducible apply w_condFE); · simp only [shA, eff, Int.reduceEq, Int.reduceAdd, Int.reduceSub, Nat.reduceBEq, Nat.reduceEqDiff, reduceCtorEq, Nat.reduceAdd, Nat.reduceSub, Nat.reduceMul, Nat.reduceLeDiff, Int.reduceToNat, Int.reduceLT, Int.reduceLE, Int.reduceNeg, e0, hw0, hln, t0, t1, t2, t3, t4, t5, t6, t7, t8, t9, t10, hsn]) | (with_reducible apply q_then) | (with_reducible apply q_blockN) | (with_reducible apply q_blockR) | (with_reducible apply q_thenR) | (with_reducible apply q_thenX) | (with_reducible apply q_blockX) | ((with_reducible apply q_blockY); · rfl))
  first | exact ht _ (.inl rfl) | exact ht _ (.inr rfl)
theorem sign_is (g : Sh.Glob) (l : List UInt8) (b0 : UInt8) (hl : 0 < l.length) (e0 : l[0]? = some b0) (hc : b0.toNat = 240) (hs : l.length < 4) : SCalls Tryd.prog g 99 [S (str l)] [] (I 0) [] := by
  refine call_of0 hmix tf_moraineref03_Sign rfl ?_
  have hw0 := wrap64 (x := (b0.toNat : Int)) (by have := u8_lt b0; omega) (by have := u8_lt b0; omega)
  have hln := decide_F (p := ((l.length : Int) = 0)) (by omega)
  have t0 := decide_F (p := ((b0.toNat : Int) < 128)) (by have := u8_lt b0; omega)
  have t1 := decide_T (p := (194 ≤ (b0.toNat : Int))) (by have := u8_lt b0; omega)
  have t2 := decide_F (p := ((b0.toNat : Int) ≤ 223)) (by have := u8_lt b0; omega)
  have t3 := decide_T (p := (224 ≤ (b0.toNat : Int))) (by have := u8_lt b0; omega)
  have t4 := decide_F (p := ((b0.toNat : Int) ≤ 239)) (by have := u8_lt b0; omega)
  have t5 := decide_T (p := (240 ≤ (b0.toNat : Int))) (by have := u8_lt b0; omega)
  have t6 := decide_T (p := ((b0.toNat : Int) ≤ 244)) (by have := u8_lt b0; omega)
  have t7 := decide_F (p := ((b0.toNat : Int) = 224)) (by have := u8_lt b0; omega)
  have t8 := decide_F (p := ((b0.toNat : Int) = 237)) (by have := u8_lt b0; omega)
  have t9 := decide_T (p := ((b0.toNat : Int) = 240)) (by have := u8_lt b0; omega)
  have t10 := decide_F (p := ((b0.toNat : Int) = 244)) (by have := u8_lt b0; omega)
  have hsn := decide_T (p := ((l.length : Int) < 4)) (by omega)
  repeat (first | (with_reducible apply w_unr) | (with_reducible apply w_assoc) | (with_reducible apply w_skip) | (with_reducible apply w_ret) | (with_reducible apply w_retE) | (with_reducible apply w_skipE) | (with_reducible apply w_exit) | (with_reducible apply w_exitE) | (with_reducible apply w_block) | (with_reducible apply w_blockE) | ((with_reducible apply w_reg); · simp only [shA, eff, Int.reduceEq, Int.reduceAdd, Int.reduceSub, Nat.reduceBEq, Nat.reduceEqDiff, reduceCtorEq, Nat.reduceAdd, Nat.reduceSub, Nat.reduceMul, Nat.reduceLeDiff, Int.reduceToNat, Int.reduceLT, Int.reduceLE, Int.reduceNeg, e0, hw0, hln, t0, t1, t2, t3, t4, t5, t6, t7, t8, t9, t10, hsn]; with_reducible rfl) | ((with_reducible apply w_regE); · simp only [shA, eff, Int.reduceEq, Int.reduceAdd, Int.reduceSub, Nat.reduceBEq, Nat.reduceEqDiff, reduceCtorEq, Nat.reduceAdd, Nat.reduceSub, Nat.reduceMul, Nat.reduceLeDiff, Int.reduceToNat, Int.reduceLT, Int.reduceLE, Int.reduceNeg, e0, hw0, hln, t0, t1, t2, t3, t4, t5, t6, t7, t8, t9, t10, hsn]; with_reducible rfl) | ((with_reducible apply w_condT); · simp only [shA, eff, Int.reduceEq, Int.reduceAdd, Int.reduceSub, Nat.reduceBEq, Nat.reduceEqDiff, reduceCtorEq, Nat.reduceAdd, Nat.reduceSub, Nat.reduceMul, Nat.reduceLeDiff, Int.reduceToNat, Int.reduceLT, Int.reduceLE, Int.reduceNeg, e0, hw0, hln, t0, t1, t2, t3, t4, t5, t6, t7, t8, t9, t10, hsn]) | ((with_reducible apply w_condF); · simp only [shA, eff, Int.reduceEq, Int.reduceAdd, Int.reduceSub, Nat.reduceBEq, Nat.reduceEqDiff, reduceCtorEq, Nat.reduceAdd, Nat.reduceSub, Nat.reduceMul, Nat.reduceLeDiff, Int.reduceToNat, Int.reduceLT, Int.reduceLE, Int.reduceNeg, e0, hw0, hln, t0, t1, t2, t3, t4, t5, t6, t7, t8, t9, t10, hsn]) | ((with_reducible apply w_condTE); · simp only [shA, eff, Int.reduceEq, Int.reduceAdd, Int.reduceSub, Nat.reduceBEq, Nat.reduceEqDiff, reduceCtorEq, Nat.reduceAdd, Nat.reduceSub, Nat.reduceMul, Nat.reduceLeDiff, Int.reduceToNat, Int.reduceLT, Int.reduceLE, Int.reduceNeg, e0, hw0, hln, t0, t1, t2, t3, t4, t5, t6, t7, t8, t9, t10, hsn]) | ((with_reducible apply w_condFE); · simp only [shA, eff, Int.reduceEq, Int.reduceAdd, Int.reduceSub, Nat.reduceBEq, Nat.reduceEqDiff, reduceCtorEq, Nat.reduceAdd, Nat.reduceSub, Nat.reduceMul, Nat.reduceLeDiff, Int.reduceToNat, Int.reduceLT, Int.reduceLE, Int.reduceNeg, e0, hw0, hln, t0, t1, t2, t3, t4, t5, t6, t7, t8, t9, t10, hsn]) | (with_reducible apply q_then) | (with_reducible apply q_blockN) | (with_reducible apply q_blockR) | (with_reducible apply q_thenR) | (with_reducible apply q_thenX) | (with_reducible apply q_blockX) | ((with_reducible apply q_blockY); · rfl))
  all_goals simp [Post0, ansW, resT, SRes.get, ES.fs, ES.kill, has, drp, seqO, nbeq, lk, I, S, TV.ids3, TV.ids2, TV.ids1, TV.ids0, TV.ren3, TV.ren2, TV.ren1, TV.ren0, ]
theorem sign_it (g : Sh.Glob) (l : List UInt8) (b0 : UInt8) (hl : 0 < l.length) (e0 : l[0]? = some b0) (hc : b0.toNat = 240) (r : Int) (hs : 4 ≤ l.length) (ht : signTail g l 4 144 191 r) : SCalls Tryd.prog g 99 [S (str l)] [] (I r) [] := by
  refine call_of0 hmix tf_moraineref03_Sign rfl ?_
  have hw0 := wrap64 (x := (b0.toNat : Int)) (by have := u8_lt b0; omega) (by have := u8_lt b0; omega)
  have hln := decide_F (p := ((l.length : Int) = 0)) (by omega)
  have t0 := decide_F (p := ((b0.toNat : Int) < 128)) (by have := u8_lt b0; omega)
  have t1 := decide_T (p := (194 ≤ (b0.toNat : Int))) (by have := u8_lt b0; omega)
  have t2 := decide_F (p := ((b0.toNat : Int) ≤ 223)) (by have := u8_lt b0; omega)
  have t3 := decide_T (p := (224 ≤ (b0.toNat : Int))) (by have := u8_lt b0; omega)
  have t4 := decide_F (p := ((b0.toNat : Int) ≤ 239)) (by have := u8_lt b0; omega)
  have t5 := decide_T (p := (240 ≤ (b0.toNat : Int))) (by have := u8_lt b0; omega)
  have t6 := decide_T (p := ((b0.toNat : Int) ≤ 244)) (by have := u8_lt b0; omega)
  have t7 := decide_F (p := ((b0.toNat : Int) = 224)) (by have := u8_lt b0; omega)
  have t8 := decide_F (p := ((b0.toNat : Int) = 237)) (by have := u8_lt b0; omega)
  have t9 := decide_T (p := ((b0.toNat : Int) = 240)) (by have := u8_lt b0; omega)
  have t10 := decide_F (p := ((b0.toNat : Int) = 244)) (by have := u8_lt b0; omega)
  have hsn := decide_F (p := ((l.length : Int) < 4)) (by omega)
  repeat (first | (with_reducible apply w_unr) | (with_reducible apply w_assoc) | (with_reducible apply w_skip) | (with_reducible apply w_ret) | (with_reducible apply w_retE) | (with_reducible apply w_skipE) | (with_reducible apply w_exit) | (with_reducible apply w_exitE) | (with_reducible apply w_block) | (with_reducible apply w_blockE) | ((with_reducible apply w_reg); · simp only [shA, eff, Int.reduceEq, Int.reduceAdd, Int.reduceSub, Nat.reduceBEq, Nat.reduceEqDiff, reduceCtorEq, Nat.reduceAdd, Nat.reduceSub, Nat.reduceMul, Nat.reduceLeDiff, Int.reduceToNat, Int.reduceLT, Int.reduceLE, Int.reduceNeg, e0, hw0, hln, t0, t1, t2, t3, t4, t5, t6, t7, t8, t9, t10, hsn]; with_reducible rfl) | ((with_reducible apply w_regE); · simp only [shA, eff, Int.reduceEq, Int.reduceAdd, Int.reduceSub, Nat.reduceBEq, Nat.reduceEqDiff, reduceCtorEq, Nat.reduceAdd, Nat.reduceSub, Nat.reduceMul, Nat.reduceLeDiff, Int.reduceToNat, Int.reduceLT, Int.reduceLE, Int.reduceNeg, e0, hw0, hln, t0, t1, t2, t3, t4, t5, t6, t7, t8, t9, t10, hsn]; with_reducible rfl) | ((with_reducible apply w_condT); · simp only [shA, eff, Int.reduceEq, Int.reduceAdd, Int.reduceSub, Nat.reduceBEq, Nat.reduceEqDiff, reduceCtorEq, Nat.reduceAdd, Nat.reduceSub, Nat.reduceMul, Nat.reduceLeDiff, Int.reduceToNat, Int.reduceLT, Int.reduceLE, Int.reduceNeg, e0, hw0, hln, t0, t1, t2, t3, t4, t5, t6, t7, t8, t9, t10, hsn]) | ((with_reducible apply w_condF); · simp only [shA, eff, Int.reduceEq, Int.reduceAdd, Int.reduceSub, Nat.reduceBEq, Nat.reduceEqDiff, reduceCtorEq, Nat.reduceAdd, Nat.reduceSub, Nat.reduceMul, Nat.reduceLeDiff, Int.reduceToNat, Int.reduceLT, Int.reduceLE, Int.reduceNeg, e0, hw0, hln, t0, t1, t2, t3, t4, t5, t6, t7, t8, t9, t10, hsn]) | ((with_reducible apply w_condTE); · simp only [shA, eff, Int.reduceEq, Int.reduceAdd, Int.reduceSub, Nat.reduceBEq, Nat.reduceEqDiff, reduceCtorEq, Nat.reduceAdd, Nat.reduceSub, Nat.reduceMul, Nat.reduceLeDiff, Int.reduceToNat, Int.reduceLT, Int.reduceLE, Int.reduceNeg, e0, hw0, hln, t0, t1, t2, t3, t4, t5, t6, t7, t8, t9, t10, hsn]) | ((with_reducible apply w_condFE); · simp only [shA, eff, Int.reduceEq, Int.reduceAdd, Int.reduceSub, Nat.reduceBEq, Nat.reduceEqDiff, reduceCtorEq, Nat.reduceAdd, Nat.reduceSub, Nat.reduceMul, Nat.reduceLeDiff, Int.reduceToNat, Int.reduceLT, Int.reduceLE, Int.reduceNeg, e0, hw0, hln, t0, t1, t2, t3, t4, t5, t6, t7, t8, t9, t10, hsn]) | (with_reducible apply q_then) | (with_reducible apply q_blockN) | (with_reducible apply q_blockR) | (with_reducible apply q_thenR) | (with_reducible apply q_thenX) | (with_reducible apply q_blockX) | ((with_reducible apply q_blockY); · rfl))
  first | exact ht _ (.inl rfl) | exact ht _ (.inr rfl)
theorem sign_js (g : Sh.Glob) (l : List UInt8) (b0 : UInt8) (hl : 0 < l.length) (e0 : l[0]? = some b0) (hc : 241 ≤ b0.toNat ∧ b0.toNat ≤ 243) (hs : l.length < 4) : SCalls Tryd.prog g 99 [S (str l)] [] (I 0) [] := by
  refine call_of0 hmix tf_moraineref03_Sign rfl ?_
  have hw0 := wrap64 (x := (b0.toNat : Int)) (by have := u8_lt b0; omega) (by have := u8_lt b0; omega)
  have hln := decide_F (p := ((l.length : Int) = 0)) (by omega)
  have t0 := decide_F (p := ((b0.toNat : Int) < 128)) (by have := u8_lt b0; omega)
  have t1 := decide_T (p := (194 ≤ (b0.toNat : Int))) (by have := u8_lt b0; omega)
  have t2 := decide_F (p := ((b0.toNat : Int) ≤ 223)) (by have := u8_lt b0; omega)
  have t3 := decide_T (p := (224 ≤ (b0.toNat : Int))) (by have := u8_lt b0; omega)
  have t4 := decide_F (p := ((b0.toNat : Int) ≤ 239)) (by have := u8_lt b0; omega)
  have t5 := decide_T (p := (240 ≤ (b0.toNat : Int))) (by have := u8_lt b0; omega)
  have t6 := decide_T (p := ((b0.toNat : Int) ≤ 244)) (by have := u8_lt b0; omega)
  have t7 := decide_F (p := ((b0.toNat : Int) = 224)) (by have := u8_lt b0; omega)
  have t8 := decide_F (p := ((b0.toNat : Int) = 237)) (by have := u8_lt b0; omega)
  have t9 := decide_F (p := ((b0.toNat : Int) = 240)) (by have := u8_lt b0; omega)
  have t10 := decide_F (p := ((b0.toNat : Int) = 244)) (by have := u8_lt b0; omega)
  have hsn := decide_T (p := ((l.length : Int) < 4)) (by omega)
  repeat (first | (with_reducible apply w_unr) | (with_reducible apply w_assoc) | (with_reducible apply w_skip) | (with_reducible apply w_ret) | (with_reducible apply w_retE) | (with_reducible apply w_skipE) | (with_reducible apply w_exit) | (with_reducible apply w_exitE) | (with_reducible apply w_block) | (with_reducible apply w_blockE) | ((with_reducible apply w_reg); · simp only [shA, eff, Int.reduceEq, Int.reduceAdd, Int.reduceSub, Nat.reduceBEq, Nat.reduceEqDiff, reduceCtorEq, Nat.reduceAdd, Nat.reduceSub, Nat.reduceMul, Nat.reduceLeDiff, Int.reduceToNat, Int.reduceLT, Int.reduceLE, Int.reduceNeg, e0, hw0, hln, t0, t1, t2, t3, t4, t5, t6, t7, t8, t9, t10, hsn]; with_reducible rfl) | ((with_reducible apply w_regE); · simp only [shA, eff, Int.reduceEq, Int.reduceAdd, Int.reduceSub, Nat.reduceBEq, Nat.reduceEqDiff, reduceCtorEq, Nat.reduceAdd, Nat.reduceSub, Nat.reduceMul, Nat.reduceLeDiff, Int.reduceToNat, Int.reduceLT, Int.reduceLE, Int.reduceNeg, e0, hw0, hln, t0, t1, t2, t3, t4, t5, t6, t7, t8, t9, t10, hsn]; with_reducible rfl) | ((with_reducible apply w_condT); · simp only [shA, eff, Int.reduceEq, Int.reduceAdd, Int.reduceSub, Nat.reduceBEq, Nat.reduceEqDiff, reduceCtorEq, Nat.reduceAdd, Nat.reduceSub, Nat.reduceMul, Nat.reduceLeDiff, Int.reduceToNat, Int.reduceLT, Int.reduceLE, Int.reduceNeg, e0, hw0, hln, t0, t1, t2, t3, t4, t5, t6, t7, t8, t9, t10, hsn]) | ((with_reducible apply w_condF); · simp only [shA, eff, Int.reduceEq, Int.reduceAdd, Int.reduceSub, Nat.reduceBEq, Nat.reduceEqDiff, reduceCtorEq, Nat.reduceAdd, Nat.reduceSub, Nat.reduceMul, Nat.reduceLeDiff, Int.reduceToNat, Int.reduceLT, Int.reduceLE, Int.reduceNeg, e0, hw0, hln, t0, t1, t2, t3, t4, t5, t6, t7, t8, t9, t10, hsn]) | ((with_reducible apply w_condTE); · simp only [shA, eff, Int.reduceEq, Int.reduceAdd, Int.reduceSub, Nat.reduceBEq, Nat.reduceEqDiff, reduceCtorEq, Nat.reduceAdd, Nat.reduceSub, Nat.reduceMul, Nat.reduceLeDiff, Int.reduceToNat, Int.reduceLT, Int.reduceLE, Int.reduceNeg, e0, hw0, hln, t0, t1, t2, t3, t4, t5, t6, t7, t8, t9, t10, hsn]) | ((with_reducible apply w_condFE); · simp only [shA, eff, Int.reduceEq, Int.reduceAdd, Int.reduceSub, Nat.reduceBEq, Nat.reduceEqDiff, reduceCtorEq, Nat.reduceAdd, Nat.reduceSub, Nat.reduceMul, Nat.reduceLeDiff, Int.reduceToNat, Int.reduceLT, Int.reduceLE, Int.reduceNeg, e0, hw0, hln, t0, t1, t2, t3, t4, t5, t6, t7, t8, t9, t10, hsn]) | (with_reducible apply q_then) | (with_reducible apply q_blockN) | (with_reducible apply q_blockR) | (with_reducible apply q_thenR) | (with_reducible apply q_thenX) | (with_reducible apply q_blockX) | ((with_reducible apply q_blockY); · rfl))
  all_goals simp [Post0, ansW, resT, SRes.get, ES.fs, ES.kill, has, drp, seqO, nbeq, lk, I, S, TV.ids3, TV.ids2, TV.ids1, TV.ids0, TV.ren3, TV.ren2, TV.ren1, TV.ren0, ]
theorem sign_jt (g : Sh.Glob) (l : List UInt8) (b0 : UInt8) (hl : 0 < l.length) (e0 : l[0]? = some b0) (hc : 241 ≤ b0.toNat ∧ b0.toNat ≤ 243) (r : Int) (hs : 4 ≤ l.length) (ht : signTail g l 4 128 191 r) : SCalls Tryd.prog g 99 [S (str l)] [] (I r) [] := by
  refine call_of0 hmix tf_moraineref03_Sign rfl ?_
  have hw0 := wrap64 (x := (b0.toNat : Int)) (by have := u8_lt b0; omega) (by have := u8_lt b0; omega)
  have hln := decide_F (p := ((l.length : Int) = 0)) (by omega)
  have t0 := decide_F (p := ((b0.toNat : Int) < 128)) (by have := u8_lt b0; omega)
  have t1 := decide_T (p := (194 ≤ (b0.toNat : Int))) (by have := u8_lt b0; omega)
  have t2 := decide_F (p := ((b0.toNat : Int) ≤ 223)) (by have := u8_lt b0; omega)
  have t3 := decide_T (p := (224 ≤ (b0.toNat : Int))) (by have := u8_lt b0; omega)
  have t4 := decide_F (p := ((b0.toNat : Int) ≤ 239)) (by have := u8_lt b0; omega)
  have t5 := decide_T (p := (240 ≤ (b0.toNat : Int))) (by have := u8_lt b0; omega)
  have t6 := decide_T (p := ((b0.toNat : Int) ≤ 244)) (by have := u8_lt b0; omega)
  have t7 := decide_F (p := ((b0.toNat : Int) = 224)) (by have := u8_lt b0; omega)
  have t8 := decide_F (p := ((b0.toNat : Int) = 237)) (by have := u8_lt b0; omega)
  have t9 := decide_F (p := ((b0.toNat : Int) = 240)) (by have := u8_lt b0; omega)
  have t10 := decide_F (p := ((b0.toNat : Int) = 244)) (by have := u8_lt b0; omega)
  have hsn := decide_F (p := ((l.length : Int) < 4)) (by omega)
  repeat (first | (with_reducible apply w_unr) | (with_reducible apply w_assoc) | (with_reducible apply w_skip) | (with_reducible apply w_ret) | (with_reducible apply w_retE) | (with_reducible apply w_skipE) | (with_reducible apply w_exit) | (with_reducible apply w_exitE) | (with_reducible apply w_block) | (with_reducible apply w_blockE) | ((with_reducible apply w_reg); · simp only [shA, eff, Int.reduceEq, Int.reduceAdd, Int.reduceSub, Nat.reduceBEq, Nat.reduceEqDiff, reduceCtorEq, Nat.reduceAdd, Nat.reduceSub, Nat.reduceMul, Nat.reduceLeDiff, Int.reduceToNat, Int.reduceLT, Int.reduceLE, Int.reduceNeg, e0, hw0, hln, t0, t1, t2, t3, t4, t5, t6, t7, t8, t9, t10, hsn]; with_reducible rfl) | ((with_reducible apply w_regE); · simp only [shA, eff, Int.reduceEq, Int.reduceAdd, Int.reduceSub, Nat.reduceBEq, Nat.reduceEqDiff, reduceCtorEq, Nat.reduceAdd, Nat.reduceSub, Nat.reduceMul, Nat.reduceLeDiff, Int.reduceToNat, Int.reduceLT, Int.reduceLE, Int.reduceNeg, e0, hw0, hln, t0, t1, t2, t3, t4, t5, t6, t7, t8, t9, t10, hsn]; with_reducible rfl) | ((with_reducible apply w_condT); · simp only [shA, eff, Int.reduceEq, Int.reduceAdd, Int.reduceSub, Nat.reduceBEq, Nat.reduceEqDiff, reduceCtorEq, Nat.reduceAdd, Nat.reduceSub, Nat.reduceMul, Nat.reduceLeDiff, Int.reduceToNat, Int.reduceLT, Int.reduceLE, Int.reduceNeg, e0, hw0, hln, t0, t1, t2, t3, t4, t5, t6, t7, t8, t9, t10, hsn]) | ((with_reducible apply w_condF); · simp only [shA, eff, Int.reduceEq, Int.reduceAdd, Int.reduceSub, Nat.reduceBEq, Nat.reduceEqDiff, reduceCtorEq, Nat.reduceAdd, Nat.reduceSub, Nat.reduceMul, Nat.reduceLeDiff, Int.reduceToNat, Int.reduceLT, Int.reduceLE, Int.reduceNeg, e0, hw0, hln, t0, t1, t2, t3, t4, t5, t6, t7, t8, t9, t10, hsn]) | ((with_reducible apply w_condTE); · simp only [shA, eff, Int.reduceEq, Int.reduceAdd, Int.reduceSub, Nat.reduceBEq, Nat.reduceEqDiff, reduceCtorEq, Nat.reduceAdd, Nat.reduceSub, Nat.reduceMul, Nat.reduceLeDiff, Int.reduceToNat, Int.reduceLT, Int.reduceLE, Int.reduceNeg, e0, hw0, hln, t0, t1, t2, t3, t4, t5, t6, t7, t8, t9, t10, hsn]) | ((with_reducible apply w_condFE); · simp only [shA, eff, Int.reduceEq, Int.reduceAdd, Int.reduceSub, Nat.reduceBEq, Nat.reduceEqDiff, reduceCtorEq, Nat.reduceAdd, Nat.reduceSub, Nat.reduceMul, Nat.reduceLeDiff, Int.reduceToNat, Int.reduceLT, Int.reduceLE, Int.reduceNeg, e0, hw0, hln, t0, t1, t2, t3, t4, t5, t6, t7, t8, t9, t10, hsn]) | (with_reducible apply q_then) | (with_reducible apply q_blockN) | (with_reducible apply q_blockR) | (with_reducible apply q_thenR) | (with_reducible apply q_thenX) | (with_reducible apply q_blockX) | ((with_reducible apply q_blockY); · rfl))
  first | exact ht _ (.inl rfl) | exact ht _ (.inr rfl)
theorem sign_ks (g : Sh.Glob) (l : List UInt8) (b0 : UInt8) (hl : 0 < l.length) (e0 : l[0]? = some b0) (hc : b0.toNat = 244) (hs : l.length < 4) : SCalls Tryd.prog g 99 [S (str l)] [] (I 0) [] := by
  refine call_of0 hmix tf_moraineref03_Sign rfl ?_
  have hw0 := wrap64 (x := (b0.toNat : Int)) (by have := u8_lt b0; omega) (by have := u8_lt b0; omega)
  have hln := decide_F (p := ((l.length : Int) = 0)) (by omega)
  have t0 := decide_F (p := ((b0.toNat : Int) < 128)) (by have := u8_lt b0; omega)
  have t1 := decide_T (p := (194 ≤ (b0.toNat : Int))) (by have := u8_lt b0; omega)
  have t2 := decide_F (p := ((b0.toNat : Int) ≤ 223)) (by have := u8_lt b0; omega)
  have t3 := decide_T (p := (224 ≤ (b0.toNat : Int))) (by have := u8_lt b0; omega)
  have t4 := decide_F (p := ((b0.toNat : Int) ≤ 239)) (by have := u8_lt b0; omega)
  have t5 := decide_T (p := (240 ≤ (b0.toNat : Int))) (by have := u8_lt b0; omega)
  have t6 := decide_T (p := ((b0.toNat : Int) ≤ 244)) (by have := u8_lt b0; omega)
  have t7 := decide_F (p := ((b0.toNat : Int) = 224)) (by have := u8_lt b0; omega)
  have t8 := decide_F (p := ((b0.toNat : Int) = 237)) (by have := u8_lt b0; omega)
  have t9 := decide_F (p := ((b0.toNat : Int) = 240)) (by have := u8_lt b0; omega)
  have t10 := decide_T (p := ((b0.toNat : Int) = 244)) (by have := u8_lt b0; omega)
  have hsn := decide_T (p := ((l.length : Int) < 4)) (by omega)
  repeat (first | (with_reducible apply w_unr) | (with_reducible apply w_assoc) | (with_reducible apply w_skip) | (with_reducible apply w_ret) | (with_reducible apply w_retE) | (with_reducible apply w_skipE) | (with_reducible apply w_exit) | (with_reducible apply w_exitE) | (with_reducible apply w_block) | (with_reducible apply w_blockE) | ((with_reducible apply w_reg); · simp only [shA, eff, Int.reduceEq, Int.reduceAdd, Int.reduceSub, Nat.reduceBEq, Nat.reduceEqDiff, reduceCtorEq, Nat.reduceAdd, Nat.reduceSub, Nat.reduceMul, Nat.reduceLeDiff, Int.reduceToNat, Int.reduceLT, Int.reduceLE, Int.reduceNeg, e0, hw0, hln, t0, t1, t2, t3, t4, t5, t6, t7, t8, t9, t10, hsn]; with_reducible rfl) | ((with_reducible apply w_regE); · simp only [shA, eff, Int.reduceEq, Int.reduceAdd, Int.reduceSub, Nat.reduceBEq, Nat.reduceEqDiff, reduceCtorEq, Nat.reduceAdd, Nat.reduceSub, Nat.reduceMul, Nat.reduceLeDiff, Int.reduceToNat, Int.reduceLT, Int.reduceLE, Int.reduceNeg, e0, hw0, hln, t0, t1, t2, t3, t4, t5, t6, t7, t8, t9, t10, hsn]; with_reducible rfl) | ((with_reducible apply w_condT); · simp only [shA, eff, Int.reduceEq, Int.reduceAdd, Int.reduceSub, Nat.reduceBEq, Nat.reduceEqDiff, reduceCtorEq, Nat.reduceAdd, Nat.reduceSub, Nat.reduceMul, Nat.reduceLeDiff, Int.reduceToNat, Int.reduceLT, Int.reduceLE, Int.reduceNeg, e0, hw0, hln, t0, t1, t2, t3, t4, t5, t6, t7, t8, t9, t10, hsn]) | ((with_reducible apply w_condF); · simp only [shA, eff, Int.reduceEq, Int.reduceAdd, Int.reduceSub, Nat.reduceBEq, Nat.reduceEqDiff, reduceCtorEq, Nat.reduceAdd, Nat.reduceSub, Nat.reduceMul, Nat.reduceLeDiff, Int.reduceToNat, Int.reduceLT, Int.reduceLE, Int.reduceNeg, e0, hw0, hln, t0, t1, t2, t3, t4, t5, t6, t7, t8, t9, t10, hsn]) | ((with_reducible apply w_condTE); · simp only [shA, eff, Int.reduceEq, Int.reduceAdd, Int.reduceSub, Nat.reduceBEq, Nat.reduceEqDiff, reduceCtorEq, Nat.reduceAdd, Nat.reduceSub, Nat.reduceMul, Nat.reduceLeDiff, Int.reduceToNat, Int.reduceLT, Int.reduceLE, Int.reduceNeg, e0, hw0, hln, t0, t1, t2, t3, t4, t5, t6, t7, t8, t9, t10, hsn]) | ((with_reducible apply w_condFE); · simp only [shA, eff, Int.reduceEq, Int.reduceAdd, Int.reduceSub, Nat.reduceBEq, Nat.reduceEqDiff, reduceCtorEq, Nat.reduceAdd, Nat.reduceSub, Nat.reduceMul, Nat.reduceLeDiff, Int.reduceToNat, Int.reduceLT, Int.reduceLE, Int.reduceNeg, e0, hw0, hln, t0, t1, t2, t3, t4, t5, t6, t7, t8, t9, t10, hsn]) | (with_reducible apply q_then) | (with_reducible apply q_blockN) | (with_reducible apply q_blockR) | (with_reducible apply q_thenR) | (with_reducible apply q_thenX) | (with_reducible apply q_blockX) | ((with_reducible apply q_blockY); · rfl))
  all_goals simp [Post0, ansW, resT, SRes.get, ES.fs, ES.kill, has, drp, seqO, nbeq, lk, I, S, TV.ids3, TV.ids2, TV.ids1, TV.ids0, TV.ren3, TV.ren2, TV.ren1, TV.ren0, ]
theorem sign_kt (g : Sh.Glob) (l : List UInt8) (b0 : UInt8) (hl : 0 < l.length) (e0 : l[0]? = some b0) (hc : b0.toNat = 244) (r : Int) (hs : 4 ≤ l.length) (ht : signTail g l 4 128 143 r) : SCalls Tryd.prog g 99 [S (str l)] [] (I r) [] := by
  refine call_of0 hmix tf_moraineref03_Sign rfl ?_
  have hw0 := wrap64 (x := (b0.toNat : Int)) (by have := u8_lt b0; omega) (by have := u8_lt b0; omega)
  have hln := decide_F (p := ((l.length : Int) = 0)) (by omega)
  have t0 := decide_F (p := ((b0.toNat : Int) < 128)) (by have := u8_lt b0; omega)
  have t1 := decide_T (p := (194 ≤ (b0.toNat : Int))) (by have := u8_lt b0; omega)
  have t2 := decide_F (p := ((b0.toNat : Int) ≤ 223)) (by have := u8_lt b0; omega)
  have t3 := decide_T (p := (224 ≤ (b0.toNat : Int))) (by have := u8_lt b0; omega)
  have t4 := decide_F (p := ((b0.toNat : Int) ≤ 239)) (by have := u8_lt b0; omega)
  have t5 := decide_T (p := (240 ≤ (b0.toNat : Int))) (by have := u8_lt b0; omega)
  have t6 := decide_T (p := ((b0.toNat : Int) ≤ 244)) (by have := u8_lt b0; omega)
  have t7 := decide_F (p := ((b0.toNat : Int) = 224)) (by have := u8_lt b0; omega)
  have t8 := decide_F (p := ((b0.toNat : Int) = 237)) (by have := u8_lt b0; omega)
  have t9 := decide_F (p := ((b0.toNat : Int) = 240)) (by have := u8_lt b0; omega)
  have t10 := decide_T (p := ((b0.toNat : Int) = 244)) (by have := u8_lt b0; omega)
  have hsn := decide_F (p := ((l.length : Int) < 4)) (by omega)
  repeat (first | (with_reducible apply w_unr) | (with_reducible apply w_assoc) | (with_reducible apply w_skip) | (with_reducible apply w_ret) | (with_reducible apply w_retE) | (with_reducible apply w_skipE) | (with_reducible apply w_exit) | (with_reducible apply w_exitE) | (with_reducible apply w_block) | (with_reducible apply w_blockE) | ((with_reducible apply w_reg); · simp only [shA, eff, Int.reduceEq, Int.reduceAdd, Int.reduceSub, Nat.reduceBEq, Nat.reduceEqDiff, reduceCtorEq, Nat.reduceAdd, Nat.reduceSub, Nat.reduceMul, Nat.reduceLeDiff, Int.reduceToNat, Int.reduceLT, Int.reduceLE, Int.reduceNeg, e0, hw0, hln, t0, t1, t2, t3, t4, t5, t6, t7, t8, t9, t10, hsn]; with_reducible rfl) | ((with_reducible apply w_regE); · simp only [shA, eff, Int.reduceEq, Int.reduceAdd, Int.reduceSub, Nat.reduceBEq, Nat.reduceEqDiff, reduceCtorEq, Nat.reduceAdd, Nat.reduceSub, Nat.reduceMul, Nat.reduceLeDiff, Int.reduceToNat, Int.reduceLT, Int.reduceLE, Int.reduceNeg, e0, hw0, hln, t0, t1, t2, t3, t4, t5, t6, t7, t8, t9, t10, hsn]; with_reducible rfl) | ((with_reducible apply w_condT); · simp only [shA, eff, Int.reduceEq, Int.reduceAdd, Int.reduceSub, Nat.reduceBEq, Nat.reduceEqDiff, reduceCtorEq, Nat.reduceAdd, Nat.reduceSub, Nat.reduceMul, Nat.reduceLeDiff, Int.reduceToNat, Int.reduceLT, Int.reduceLE, Int.reduceNeg, e0, hw0, hln, t0, t1, t2, t3, t4, t5, t6, t7, t8, t9, t10, hsn]) | ((with_reducible apply w_condF); · simp only [shA, eff, Int.reduceEq, Int.reduceAdd, Int.reduceSub, Nat.reduceBEq, Nat.reduceEqDiff, reduceCtorEq, Nat.reduceAdd, Nat.reduceSub, Nat.reduceMul, Nat.reduceLeDiff, Int.reduceToNat, Int.reduceLT, Int.reduceLE, Int.reduceNeg, e0, hw0, hln, t0, t1, t2, t3, t4, t5, t6, t7, t8, t9, t10, hsn]) | ((with_reducible apply w_condTE); · simp only [shA, eff, Int.reduceEq, Int.reduceAdd, Int.reduceSub, Nat.reduceBEq, Nat.reduceEqDiff, reduceCtorEq, Nat.reduceAdd, Nat.reduceSub, Nat.reduceMul, Nat.reduceLeDiff, Int.reduceToNat, Int.reduceLT, Int.reduceLE, Int.reduceNeg, e0, hw0, hln, t0, t1, t2, t3, t4, t5, t6, t7, t8, t9, t10, hsn]) | ((with_reducible apply w_condFE); · simp only [shA, eff, Int.reduceEq, Int.reduceAdd, Int.reduceSub, Nat.reduceBEq, Nat.reduceEqDiff, reduceCtorEq, Nat.reduceAdd, Nat.reduceSub, Nat.reduceMul, Nat.reduceLeDiff, Int.reduceToNat, Int.reduceLT, Int.reduceLE, Int.reduceNeg, e0, hw0, hln, t0, t1, t2, t3, t4, t5, t6, t7, t8, t9, t10, hsn]) | (with_reducible apply q_then) | (with_reducible apply q_blockN) | (with_reducible apply q_blockR) | (with_reducible apply q_thenR) | (with_reducible apply q_thenX) | (with_reducible apply q_blockX) | ((with_reducible apply q_blockY); · rfl))
  first | exact ht _ (.inl rfl) | exact ht _ (.inr rfl)
end Go.Proofs.YtdlolkogifigpaaDoor
end

section
/- The document's Sign, and IsText. No statement of the program is proved here. -/
namespace Go.Proofs.YtdlolkogifigpaaDoor
open Go Go.RowKit Go.Mor Go.Sh Go.Sh.Cd1
set_option maxRecDepth 100000
set_option maxHeartbeats 8000000
theorem getD_some {l : List UInt8} {i : Nat} {b : UInt8} (h : l[i]? = some b) : l.getD i 0 = b := by rw [List.getD_eq_getElem?_getD, h]; rfl
theorem signL_eq {l : List UInt8} (h : 0 < l.length) : signL l = signN l.length (l.getD 0 0).toNat (l.getD 1 0).toNat (l.getD 2 0).toNat (l.getD 3 0).toNat := by
  unfold signL
  rw [if_neg (by rintro rfl; simp at h)]
theorem at_ {l : List UInt8} {i : Nat} (h : i < l.length) : ∃ b, l[i]? = some b := ⟨_, List.getElem?_eq_getElem h⟩
theorem sign_none (g : Sh.Glob) (l : List UInt8) (h : l.length = 0) : SCalls Tryd.prog g 99 [S (str l)] [] (I 0) [] := by
  refine call_of0 hmix tf_moraineref03_Sign rfl ?_
  have d1 := decide_T (p := ((l.length : Int) = 0)) (by omega)
  repeat (first | (with_reducible apply w_unr) | (with_reducible apply w_assoc) | (with_reducible apply w_skip) | (with_reducible apply w_ret) | (with_reducible apply w_retE) | (with_reducible apply w_skipE) | (with_reducible apply w_exit) | (with_reducible apply w_exitE) | (with_reducible apply w_block) | (with_reducible apply w_blockE) | ((with_reducible apply w_reg); · simp only [shA, eff, Int.reduceEq, Int.reduceAdd, Int.reduceSub, Nat.reduceBEq, Nat.reduceEqDiff, reduceCtorEq, Nat.reduceAdd, Nat.reduceSub, Nat.reduceMul, Nat.reduceLeDiff, Int.reduceToNat, Int.reduceLT, Int.reduceLE, Int.reduceNeg, d1]; with_reducible rfl) | ((with_reducible apply w_regE); · simp only [shA, eff, Int.reduceEq, Int.reduceAdd, Int.reduceSub, Nat.reduceBEq, Nat.reduceEqDiff, reduceCtorEq, Nat.reduceAdd, Nat.reduceSub, Nat.reduceMul, Nat.reduceLeDiff, Int.reduceToNat, Int.reduceLT, Int.reduceLE, Int.reduceNeg, d1]; with_reducible rfl) | ((with_reducible apply w_condT); · simp only [shA, eff, Int.reduceEq, Int.reduceAdd, Int.reduceSub, Nat.reduceBEq, Nat.reduceEqDiff, reduceCtorEq, Nat.reduceAdd, Nat.reduceSub, Nat.reduceMul, Nat.reduceLeDiff, Int.reduceToNat, Int.reduceLT, Int.reduceLE, Int.reduceNeg, d1]) | ((with_reducible apply w_condF); · simp only [shA, eff, Int.reduceEq, Int.reduceAdd, Int.reduceSub, Nat.reduceBEq, Nat.reduceEqDiff, reduceCtorEq, Nat.reduceAdd, Nat.reduceSub, Nat.reduceMul, Nat.reduceLeDiff, Int.reduceToNat, Int.reduceLT, Int.reduceLE, Int.reduceNeg, d1]) | ((with_reducible apply w_condTE); · simp only [shA, eff, Int.reduceEq, Int.reduceAdd, Int.reduceSub, Nat.reduceBEq, Nat.reduceEqDiff, reduceCtorEq, Nat.reduceAdd, Nat.reduceSub, Nat.reduceMul, Nat.reduceLeDiff, Int.reduceToNat, Int.reduceLT, Int.reduceLE, Int.reduceNeg, d1]) | ((with_reducible apply w_condFE); · simp only [shA, eff, Int.reduceEq, Int.reduceAdd, Int.reduceSub, Nat.reduceBEq, Nat.reduceEqDiff, reduceCtorEq, Nat.reduceAdd, Nat.reduceSub, Nat.reduceMul, Nat.reduceLeDiff, Int.reduceToNat, Int.reduceLT, Int.reduceLE, Int.reduceNeg, d1]) | (with_reducible apply q_then) | (with_reducible apply q_blockN) | (with_reducible apply q_blockR) | (with_reducible apply q_thenR) | (with_reducible apply q_thenX) | (with_reducible apply q_blockX) | ((with_reducible apply q_blockY); · rfl))
  simp [Post0, ansW, resT, SRes.get, ES.fs, ES.kill, has, drp, seqO, nbeq, lk, I, S, TV.ids3, TV.ids2, TV.ids1, TV.ids0, TV.ren3, TV.ren2, TV.ren1, TV.ren0, F_moraineref03_Sign]
theorem sign_ok (g : Sh.Glob) (l : List UInt8) : SCalls Tryd.prog g 99 [S (str l)] [] (I (signL l)) [] := by
  rcases Nat.eq_zero_or_pos l.length with h0 | h0
  · obtain rfl := List.eq_nil_of_length_eq_zero h0
    exact sign_none g [] rfl
  obtain ⟨b0, e0⟩ := at_ h0
  have hb0 := u8_lt b0
  rw [signL_eq h0, getD_some e0]
  generalize hB1 : (l.getD 1 0).toNat = B1
  generalize hB2 : (l.getD 2 0).toNat = B2
  generalize hB3 : (l.getD 3 0).toNat = B3
  have tb1 : ∀ b1, l[1]? = some b1 → b1.toNat = B1 := fun b h => by rw [← hB1, getD_some h]
  have tb2 : ∀ b1, l[2]? = some b1 → b1.toNat = B2 := fun b h => by rw [← hB2, getD_some h]
  have tb3 : ∀ b1, l[3]? = some b1 → b1.toNat = B3 := fun b h => by rw [← hB3, getD_some h]
  have val : ∀ {r : Nat}, signN l.length b0.toNat B1 B2 B3 = r → SCalls Tryd.prog g 99 [S (str l)] [] (I (r : Int)) [] → SCalls Tryd.prog g 99 [S (str l)] [] (I (signN l.length b0.toNat B1 B2 B3 : Nat)) [] := fun h1 h2 => by rw [h1]; exact h2
  by_cases ca : b0.toNat < 128
  · exact val (r := 1) (by unfold signN; (repeat' split) <;> omega) (sign_a g l b0 h0 e0 ca)
  by_cases cb : b0.toNat ≤ 193
  · exact val (r := 0) (by unfold signN; (repeat' split) <;> omega) (sign_b g l b0 h0 e0 ⟨by omega, cb⟩)
  by_cases cz : 245 ≤ b0.toNat
  · exact val (r := 0) (by unfold signN; (repeat' split) <;> omega) (sign_z g l b0 h0 e0 cz)
  by_cases cc : b0.toNat ≤ 223
  · by_cases hs : l.length < 2
    · exact val (r := 0) (by unfold signN; (repeat' split) <;> omega) (sign_cs g l b0 h0 e0 ⟨by omega, cc⟩ hs)
    obtain ⟨b1, e1⟩ := at_ (l := l) (i := 1) (by omega)
    have q1 := tb1 b1 e1
    by_cases k1 : (b1.toNat : Int) < 128
    · exact val (r := 0) (by unfold signN; (repeat' split) <;> omega) (sign_ct g l b0 h0 e0 ⟨by omega, cc⟩ 0 (by omega) (tail2_lo g l 128 191 b1 e1 k1))
    by_cases k2 : 191 < (b1.toNat : Int)
    · exact val (r := 0) (by unfold signN; (repeat' split) <;> omega) (sign_ct g l b0 h0 e0 ⟨by omega, cc⟩ 0 (by omega) (tail2_hi g l 128 191 b1 e1 k1 k2))
    exact val (r := 2) (by unfold signN; (repeat' split) <;> omega) (sign_ct g l b0 h0 e0 ⟨by omega, cc⟩ 2 (by omega) (tail2_ok g l 128 191 b1 e1 k1 k2))
  by_cases cd : b0.toNat = 224
  · by_cases hs : l.length < 3
    · exact val (r := 0) (by unfold signN; (repeat' split) <;> omega) (sign_ds g l b0 h0 e0 cd hs)
    obtain ⟨b1, e1⟩ := at_ (l := l) (i := 1) (by omega)
    have q1 := tb1 b1 e1
    by_cases k1 : (b1.toNat : Int) < 160
    · exact val (r := 0) (by unfold signN; (repeat' split) <;> omega) (sign_dt g l b0 h0 e0 cd 0 (by omega) (tail3_lo g l 160 191 b1 e1 k1))
    by_cases k2 : 191 < (b1.toNat : Int)
    · exact val (r := 0) (by unfold signN; (repeat' split) <;> omega) (sign_dt g l b0 h0 e0 cd 0 (by omega) (tail3_hi g l 160 191 b1 e1 k1 k2))
    obtain ⟨b2, e2⟩ := at_ (l := l) (i := 2) (by omega)
    have q2 := tb2 b2 e2
    by_cases k3 : b2.toNat < 128
    · exact val (r := 0) (by unfold signN; (repeat' split) <;> omega) (sign_dt g l b0 h0 e0 cd 0 (by omega) (tail3_lo2 g l 160 191 b1 e1 k1 k2 b2 e2 k3))
    by_cases k4 : 191 < b2.toNat
    · exact val (r := 0) (by unfold signN; (repeat' split) <;> omega) (sign_dt g l b0 h0 e0 cd 0 (by omega) (tail3_hi2 g l 160 191 b1 e1 k1 k2 b2 e2 k4))
    exact val (r := 3) (by unfold signN; (repeat' split) <;> omega) (sign_dt g l b0 h0 e0 cd 3 (by omega) (tail3_ok g l 160 191 b1 e1 k1 k2 b2 e2 (by omega) (by omega)))
  by_cases cf : b0.toNat = 237
  · by_cases hs : l.length < 3
    · exact val (r := 0) (by unfold signN; (repeat' split) <;> omega) (sign_fs g l b0 h0 e0 cf hs)
    obtain ⟨b1, e1⟩ := at_ (l := l) (i := 1) (by omega)
    have q1 := tb1 b1 e1
    by_cases k1 : (b1.toNat : Int) < 128
    · exact val (r := 0) (by unfold signN; (repeat' split) <;> omega) (sign_ft g l b0 h0 e0 cf 0 (by omega) (tail3_lo g l 128 159 b1 e1 k1))
    by_cases k2 : 159 < (b1.toNat : Int)
    · exact val (r := 0) (by unfold signN; (repeat' split) <;> omega) (sign_ft g l b0 h0 e0 cf 0 (by omega) (tail3_hi g l 128 159 b1 e1 k1 k2))
    obtain ⟨b2, e2⟩ := at_ (l := l) (i := 2) (by omega)
    have q2 := tb2 b2 e2
    by_cases k3 : b2.toNat < 128
    · exact val (r := 0) (by unfold signN; (repeat' split) <;> omega) (sign_ft g l b0 h0 e0 cf 0 (by omega) (tail3_lo2 g l 128 159 b1 e1 k1 k2 b2 e2 k3))
    by_cases k4 : 191 < b2.toNat
    · exact val (r := 0) (by unfold signN; (repeat' split) <;> omega) (sign_ft g l b0 h0 e0 cf 0 (by omega) (tail3_hi2 g l 128 159 b1 e1 k1 k2 b2 e2 k4))
    exact val (r := 3) (by unfold signN; (repeat' split) <;> omega) (sign_ft g l b0 h0 e0 cf 3 (by omega) (tail3_ok g l 128 159 b1 e1 k1 k2 b2 e2 (by omega) (by omega)))
  by_cases ce : b0.toNat ≤ 239
  · by_cases hs : l.length < 3
    · exact val (r := 0) (by unfold signN; (repeat' split) <;> omega) (sign_es g l b0 h0 e0 ⟨by omega, ce, cf⟩ hs)
    obtain ⟨b1, e1⟩ := at_ (l := l) (i := 1) (by omega)
    have q1 := tb1 b1 e1
    by_cases k1 : (b1.toNat : Int) < 128
    · exact val (r := 0) (by unfold signN; (repeat' split) <;> omega) (sign_et g l b0 h0 e0 ⟨by omega, ce, cf⟩ 0 (by omega) (tail3_lo g l 128 191 b1 e1 k1))
    by_cases k2 : 191 < (b1.toNat : Int)
    · exact val (r := 0) (by unfold signN; (repeat' split) <;> omega) (sign_et g l b0 h0 e0 ⟨by omega, ce, cf⟩ 0 (by omega) (tail3_hi g l 128 191 b1 e1 k1 k2))
    obtain ⟨b2, e2⟩ := at_ (l := l) (i := 2) (by omega)
    have q2 := tb2 b2 e2
    by_cases k3 : b2.toNat < 128
    · exact val (r := 0) (by unfold signN; (repeat' split) <;> omega) (sign_et g l b0 h0 e0 ⟨by omega, ce, cf⟩ 0 (by omega) (tail3_lo2 g l 128 191 b1 e1 k1 k2 b2 e2 k3))
    by_cases k4 : 191 < b2.toNat
    · exact val (r := 0) (by unfold signN; (repeat' split) <;> omega) (sign_et g l b0 h0 e0 ⟨by omega, ce, cf⟩ 0 (by omega) (tail3_hi2 g l 128 191 b1 e1 k1 k2 b2 e2 k4))
    exact val (r := 3) (by unfold signN; (repeat' split) <;> omega) (sign_et g l b0 h0 e0 ⟨by omega, ce, cf⟩ 3 (by omega) (tail3_ok g l 128 191 b1 e1 k1 k2 b2 e2 (by omega) (by omega)))
  by_cases ci : b0.toNat = 240
  · by_cases hs : l.length < 4
    · exact val (r := 0) (by unfold signN; (repeat' split) <;> omega) (sign_is g l b0 h0 e0 ci hs)
    obtain ⟨b1, e1⟩ := at_ (l := l) (i := 1) (by omega)
    have q1 := tb1 b1 e1
    by_cases k1 : (b1.toNat : Int) < 144
    · exact val (r := 0) (by unfold signN; (repeat' split) <;> omega) (sign_it g l b0 h0 e0 ci 0 (by omega) (tail4_lo g l 144 191 b1 e1 k1))
    by_cases k2 : 191 < (b1.toNat : Int)
    · exact val (r := 0) (by unfold signN; (repeat' split) <;> omega) (sign_it g l b0 h0 e0 ci 0 (by omega) (tail4_hi g l 144 191 b1 e1 k1 k2))
    obtain ⟨b2, e2⟩ := at_ (l := l) (i := 2) (by omega)
    have q2 := tb2 b2 e2
    by_cases k3 : b2.toNat < 128
    · exact val (r := 0) (by unfold signN; (repeat' split) <;> omega) (sign_it g l b0 h0 e0 ci 0 (by omega) (tail4_lo2 g l 144 191 b1 e1 k1 k2 b2 e2 k3))
    by_cases k4 : 191 < b2.toNat
    · exact val (r := 0) (by unfold signN; (repeat' split) <;> omega) (sign_it g l b0 h0 e0 ci 0 (by omega) (tail4_hi2 g l 144 191 b1 e1 k1 k2 b2 e2 k4))
    obtain ⟨b3, e3⟩ := at_ (l := l) (i := 3) (by omega)
    have q3 := tb3 b3 e3
    by_cases k5 : b3.toNat < 128
    · exact val (r := 0) (by unfold signN; (repeat' split) <;> omega) (sign_it g l b0 h0 e0 ci 0 (by omega) (tail4_lo3 g l 144 191 b1 e1 k1 k2 b2 e2 (by omega) (by omega) b3 e3 k5))
    by_cases k6 : 191 < b3.toNat
    · exact val (r := 0) (by unfold signN; (repeat' split) <;> omega) (sign_it g l b0 h0 e0 ci 0 (by omega) (tail4_hi3 g l 144 191 b1 e1 k1 k2 b2 e2 (by omega) (by omega) b3 e3 k6))
    exact val (r := 4) (by unfold signN; (repeat' split) <;> omega) (sign_it g l b0 h0 e0 ci 4 (by omega) (tail4_ok g l 144 191 b1 e1 k1 k2 b2 e2 (by omega) (by omega) b3 e3 (by omega) (by omega)))
  by_cases cj : b0.toNat ≤ 243
  · by_cases hs : l.length < 4
    · exact val (r := 0) (by unfold signN; (repeat' split) <;> omega) (sign_js g l b0 h0 e0 ⟨by omega, cj⟩ hs)
    obtain ⟨b1, e1⟩ := at_ (l := l) (i := 1) (by omega)
    have q1 := tb1 b1 e1
    by_cases k1 : (b1.toNat : Int) < 128
    · exact val (r := 0) (by unfold signN; (repeat' split) <;> omega) (sign_jt g l b0 h0 e0 ⟨by omega, cj⟩ 0 (by omega) (tail4_lo g l 128 191 b1 e1 k1))
    by_cases k2 : 191 < (b1.toNat : Int)
    · exact val (r := 0) (by unfold signN; (repeat' split) <;> omega) (sign_jt g l b0 h0 e0 ⟨by omega, cj⟩ 0 (by omega) (tail4_hi g l 128 191 b1 e1 k1 k2))
    obtain ⟨b2, e2⟩ := at_ (l := l) (i := 2) (by omega)
    have q2 := tb2 b2 e2
    by_cases k3 : b2.toNat < 128
    · exact val (r := 0) (by unfold signN; (repeat' split) <;> omega) (sign_jt g l b0 h0 e0 ⟨by omega, cj⟩ 0 (by omega) (tail4_lo2 g l 128 191 b1 e1 k1 k2 b2 e2 k3))
    by_cases k4 : 191 < b2.toNat
    · exact val (r := 0) (by unfold signN; (repeat' split) <;> omega) (sign_jt g l b0 h0 e0 ⟨by omega, cj⟩ 0 (by omega) (tail4_hi2 g l 128 191 b1 e1 k1 k2 b2 e2 k4))
    obtain ⟨b3, e3⟩ := at_ (l := l) (i := 3) (by omega)
    have q3 := tb3 b3 e3
    by_cases k5 : b3.toNat < 128
    · exact val (r := 0) (by unfold signN; (repeat' split) <;> omega) (sign_jt g l b0 h0 e0 ⟨by omega, cj⟩ 0 (by omega) (tail4_lo3 g l 128 191 b1 e1 k1 k2 b2 e2 (by omega) (by omega) b3 e3 k5))
    by_cases k6 : 191 < b3.toNat
    · exact val (r := 0) (by unfold signN; (repeat' split) <;> omega) (sign_jt g l b0 h0 e0 ⟨by omega, cj⟩ 0 (by omega) (tail4_hi3 g l 128 191 b1 e1 k1 k2 b2 e2 (by omega) (by omega) b3 e3 k6))
    exact val (r := 4) (by unfold signN; (repeat' split) <;> omega) (sign_jt g l b0 h0 e0 ⟨by omega, cj⟩ 4 (by omega) (tail4_ok g l 128 191 b1 e1 k1 k2 b2 e2 (by omega) (by omega) b3 e3 (by omega) (by omega)))
  by_cases ck : b0.toNat = 244
  · by_cases hs : l.length < 4
    · exact val (r := 0) (by unfold signN; (repeat' split) <;> omega) (sign_ks g l b0 h0 e0 ck hs)
    obtain ⟨b1, e1⟩ := at_ (l := l) (i := 1) (by omega)
    have q1 := tb1 b1 e1
    by_cases k1 : (b1.toNat : Int) < 128
    · exact val (r := 0) (by unfold signN; (repeat' split) <;> omega) (sign_kt g l b0 h0 e0 ck 0 (by omega) (tail4_lo g l 128 143 b1 e1 k1))
    by_cases k2 : 143 < (b1.toNat : Int)
    · exact val (r := 0) (by unfold signN; (repeat' split) <;> omega) (sign_kt g l b0 h0 e0 ck 0 (by omega) (tail4_hi g l 128 143 b1 e1 k1 k2))
    obtain ⟨b2, e2⟩ := at_ (l := l) (i := 2) (by omega)
    have q2 := tb2 b2 e2
    by_cases k3 : b2.toNat < 128
    · exact val (r := 0) (by unfold signN; (repeat' split) <;> omega) (sign_kt g l b0 h0 e0 ck 0 (by omega) (tail4_lo2 g l 128 143 b1 e1 k1 k2 b2 e2 k3))
    by_cases k4 : 191 < b2.toNat
    · exact val (r := 0) (by unfold signN; (repeat' split) <;> omega) (sign_kt g l b0 h0 e0 ck 0 (by omega) (tail4_hi2 g l 128 143 b1 e1 k1 k2 b2 e2 k4))
    obtain ⟨b3, e3⟩ := at_ (l := l) (i := 3) (by omega)
    have q3 := tb3 b3 e3
    by_cases k5 : b3.toNat < 128
    · exact val (r := 0) (by unfold signN; (repeat' split) <;> omega) (sign_kt g l b0 h0 e0 ck 0 (by omega) (tail4_lo3 g l 128 143 b1 e1 k1 k2 b2 e2 (by omega) (by omega) b3 e3 k5))
    by_cases k6 : 191 < b3.toNat
    · exact val (r := 0) (by unfold signN; (repeat' split) <;> omega) (sign_kt g l b0 h0 e0 ck 0 (by omega) (tail4_hi3 g l 128 143 b1 e1 k1 k2 b2 e2 (by omega) (by omega) b3 e3 k6))
    exact val (r := 4) (by unfold signN; (repeat' split) <;> omega) (sign_kt g l b0 h0 e0 ck 4 (by omega) (tail4_ok g l 128 143 b1 e1 k1 k2 b2 e2 (by omega) (by omega) b3 e3 (by omega) (by omega)))
  omega
end Go.Proofs.YtdlolkogifigpaaDoor
end
