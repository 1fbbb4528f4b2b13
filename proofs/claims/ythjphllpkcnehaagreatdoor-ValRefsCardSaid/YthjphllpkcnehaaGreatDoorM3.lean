/- Merged texts: Wire5 PWire3 Wire6 Pr1 PrA WrapA Cd1. No statement of the program is proved here. -/
import Derived.Test.YthjphllpkcnehaaGreatDoorM2
import Derived.Deep.QuietTactic
import Derived.BigQuiet
import Derived.Test.YthjphllpkcnehaaGreatDoorProg
import Derived.KernelRfl
set_option linter.unusedSimpArgs false
set_option linter.unusedVariables false
section
/- Layer 1: (*reader).number. -/
namespace Go.Proofs.YthjphllpkcnehaaGreatDoor
open Go Go.RowKit Go.Mor Go.Shelf
attribute [local go_sem] Oper.semAt_some

/-- What (*reader).number leaves. -/
def NumPost (s : List UInt8) (a : Int) (b : Nat) (a0 a1 : Addr) (w : World) (e : Ending) (w' : World) : Prop :=
  match rd s a with
  | .ok (n, z) => e = .returned (.tuple #[.int .i64 n, .nilIface]) ∧ w.grownBy w' (some b) ∧ w'.heap[b]? = some (.cells #[.string (str s), .int .i64 (a + z)] 215 (0, 0))
  | .error false => e = .returned (.tuple #[.int .i64 0, .iface 261 (.pointer (some a0))]) ∧ Below w.heap.size w w'
  | .error true => e = .returned (.tuple #[.int .i64 0, .iface 261 (.pointer (some a1))]) ∧ Below w.heap.size w w'

theorem blk_cells {w : World} {b t : Nat} {cs : Array Value} (h : w.heap[b]? = some (.cells cs t (0, 0))) (i : Nat) : w.cell? ⟨b, i, none⟩ = cs[i]? := by simp [World.cell?, h]
theorem blk_frozen {w : World} {b t : Nat} {cs : Array Value} (h : w.heap[b]? = some (.cells cs t (0, 0))) (i : Nat) : w.frozen? ⟨b, i, none⟩ = false := by simp [World.frozen?, h]

theorem rd_out {s : List UInt8} {a : Int} (h : ¬ (0 ≤ a ∧ a < s.length)) : rd s a = .error false := by simp only [rd, if_neg h]

set_option maxRecDepth 100000 in
set_option maxHeartbeats 2000000 in
theorem number_out (s : List UInt8) (a : Int) (b : Nat) (a0 a1 : Addr) (w : World) (hs : s.length < 1125899906842624) (ha0 : -9223372036854775808 ≤ a) (ha1 : a ≤ 9223372036854775807)
    (hG : Glob w a0 a1) (hb : w.heap[b]? = some (.cells #[.string (str s), .int .i64 a] 215 (0, 0))) (hin : ¬ (0 ≤ a ∧ a < s.length)) :
    Calls Tryz.prog 169 #[.pointer (some ⟨b, 0, none⟩)] w fun e w' => e = .returned (.tuple #[.int .i64 0, .iface 261 (.pointer (some a0))]) ∧ Below w.heap.size w w' := by
  have hmix : Tryz.prog.follows .mixedOrders = true := by kernel_rfl
  have hblt := heap_lt hb
  have c0 : w.cell? ⟨b, 0, none⟩ = some (.string (str s)) := blk_cells hb 0
  have c1 : w.cell? ⟨b, 0 + 1, none⟩ = some (.int .i64 a) := blk_cells hb 1
  have e0 := hG.e0
  have g0 := cell_lt e0
  dsimp only at g0
  have hhas : ∀ W, Calls Tryz.prog 182 #[.string (str s), .int .i64 a, .int .i64 1] W fun e w' => e = .returned (.bool false) ∧ w' = W := fun W => by
    have := has_any s a 1 W (by omega) ha0 ha1
    rwa [decide_eq_false (by omega)] at this
  have HH := Lib.hid hhas
  clear hhas hG hb
  go_enter Tryz.func169, Tryz.ntmps169
  go_wp2_with fail
  go_step3
  go_wp2_with fail
  refine wp_region_tail 9 hmix (by kernel_rfl) ?_; simp only [List.take_succ_cons, List.take_zero, List.drop_succ_cons, List.drop_zero]
  iterate 8 still_step
  still_call (HH.out _)
  refine wpStill_nil ?_
  go_wp2_with fail
  go_region
  all_goals go_wp2_with fail
  all_goals rw [Exit.noGoto_ret]
  all_goals refine bodyPost_ret (v := .tuple #[.int .i64 0, .iface 261 (.pointer (some a0))]) (by simp [results, Tryz.results169, go_sem]) rfl ⟨rfl, by go_grown⟩

theorem from_any (s : List UInt8) (a : Int) (w : World) :
    Calls Tryz.prog 183 #[.string (str s), .int .i64 a] w fun e w' => e = .returned (.func (.func 194) #[] #[.pointer (some ⟨w.heap.size + 1, 0, none⟩), .pointer (some ⟨w.heap.size, 0, none⟩)]) ∧ w' = (w.alloc (.cells #[.string (str s)] 213)).alloc (.cells #[.int .i64 a] 3) :=
  callsIn_wide.1 (from_in 3 s a w)

theorem from_stops (n : Nat) (Ba Bt : Nat) (s : List UInt8) (a : Nat) (ha : a ≤ s.length) (hs : s.length < 1125899906842624) (w : World)
    (hc : w.cell? ⟨Ba, 0, none⟩ = some (.int .i64 a)) (hd : w.cell? ⟨Bt, 0, none⟩ = some (.string (str s))) :
    SeqStopsK Fence.wide n Tryz.prog 194 #[.pointer (some ⟨Ba, 0, none⟩), .pointer (some ⟨Bt, 0, none⟩)] (fun g : Mor.Ix × UInt8 => #[Value.int .i64 g.1.val, Value.int .u8 g.2.toNat]) (Keep2 Ba Bt) (fun ys => ys = pairs s a) (fun pre => pre <+: pairs s a) s.length w := fun l J Jx W hW hJ _ hY h0 =>
  from1_in n l Ba Bt s a ha hs J Jx hY W ((hW.cell (p := ⟨Ba, 0, none⟩) (cell_lt hc)).trans hc) ((hW.cell (p := ⟨Bt, 0, none⟩) (cell_lt hd)).trans hd)
    (fun pre W1 hj => hJ pre W1 W1.drew none hj ⟨rfl, rfl, rfl, Nat.le_refl _, fun _ _ _ => rfl⟩ (fun r e => by cases e)) h0
theorem keep2_t {Ba Bt : Nat} {A B C : World} (h : Keep2 Ba Bt A B) (k : Keep2 Ba Bt B C) : Keep2 Ba Bt A C := ⟨k.1.trans h.1, k.2.trans h.2⟩
theorem keep2_b {Ba Bt : Nat} {w : World} (ha : Ba < w.heap.size) (hb : Bt < w.heap.size) (W : World) (l : Nat) (o o' : Obj) (hl : w.heap.size ≤ l) (_ : W.heap[l]? = some o) (_ : o.isCells = false) (_ : o.isWalk = false) : Keep2 Ba Bt W (W.putObj l o') :=
  ⟨World.putObj_heap_other (fun e => by omega), World.putObj_heap_other (fun e => by omega)⟩
theorem boxKeep {A B : World} {row : Option Nat} {Bk t : Nat} {v : Value} (h : Boxed A Bk t v) (hg : A.grownBy B row) (hr : ∀ r, row = some r → ∃ o : Obj, A.heap[r]? = some o ∧ o.isCells = false) : Boxed B Bk t v :=
  h.kept hg (fun e' => by obtain ⟨o, ho, hc⟩ := hr Bk e'.symm; rw [show A.heap[Bk]? = _ from h] at ho; cases ho; cases hc)

/-- Between two rounds of (*reader).number. -/
structure Mids (s : List UInt8) (a h : Nat) (w : World) (pre : List (Mor.Ix × UInt8)) (W : World) (m sg : Int) : Prop where
  bm : Boxed W (h + 1 + 1) 212 (.int .u64 m)
  bs : Boxed W (h + 1 + 1 + 1) 212 (.int .u64 sg)
  bz : Boxed W (h + 1 + 1 + 1 + 1) 3 (.int .i64 0)
  b0 : Boxed W h 3 (.int .i64 0)
  b1 : Boxed W (h + 1) 184 .nilIface
  m0 : 0 ≤ m
  m1 : m < 18446744073709551616
  s0 : 0 ≤ sg
  bl : Below h w W
  good : Begs s a pre → Mid s a pre m sg
/-- A round of (*reader).number has left. -/
def Outs (s : List UInt8) (a h : Nat) (w : World) (a1 : Addr) (c : Code) (pre : List (Mor.Ix × UInt8)) (W : World) : Prop :=
  Below h w W ∧
  ((c = .ret ∧ Boxed W h 3 (.int .i64 0) ∧ Boxed W (h + 1) 184 (.iface 261 (.pointer (some a1))) ∧ (Begs s a pre → rdGo 0 (0, 0) (s.drop a) = .error true)) ∨
   (c = .exit 0 ∧ ∃ m sg z : Nat, Boxed W (h + 1 + 1) 212 (.int .u64 m) ∧ Boxed W (h + 1 + 1 + 1) 212 (.int .u64 sg) ∧ Boxed W (h + 1 + 1 + 1 + 1) 3 (.int .i64 (z + 1)) ∧ Boxed W h 3 (.int .i64 0) ∧ Boxed W (h + 1) 184 .nilIface ∧ z < 1125899906842624 ∧
     (Begs s a pre → rdGo 0 (0, 0) (s.drop a) = .ok (m, sg, z + 1))))
theorem boxes5 (w : World) : Boxed (((((w.alloc (.cells #[.int .i64 0] 3)).alloc (.cells #[.nilIface] 184)).alloc (.cells #[.int .u64 0] 212)).alloc (.cells #[.int .u64 0] 212)).alloc (.cells #[.int .i64 0] 3)) w.heap.size 3 (.int .i64 0) ∧ Boxed (((((w.alloc (.cells #[.int .i64 0] 3)).alloc (.cells #[.nilIface] 184)).alloc (.cells #[.int .u64 0] 212)).alloc (.cells #[.int .u64 0] 212)).alloc (.cells #[.int .i64 0] 3)) (w.heap.size + 1) 184 .nilIface ∧ Boxed (((((w.alloc (.cells #[.int .i64 0] 3)).alloc (.cells #[.nilIface] 184)).alloc (.cells #[.int .u64 0] 212)).alloc (.cells #[.int .u64 0] 212)).alloc (.cells #[.int .i64 0] 3)) (w.heap.size + 2) 212 (.int .u64 0) ∧ Boxed (((((w.alloc (.cells #[.int .i64 0] 3)).alloc (.cells #[.nilIface] 184)).alloc (.cells #[.int .u64 0] 212)).alloc (.cells #[.int .u64 0] 212)).alloc (.cells #[.int .i64 0] 3)) (w.heap.size + 3) 212 (.int .u64 0) ∧ Boxed (((((w.alloc (.cells #[.int .i64 0] 3)).alloc (.cells #[.nilIface] 184)).alloc (.cells #[.int .u64 0] 212)).alloc (.cells #[.int .u64 0] 212)).alloc (.cells #[.int .i64 0] 3)) (w.heap.size + 4) 3 (.int .i64 0) ∧ (((((w.alloc (.cells #[.int .i64 0] 3)).alloc (.cells #[.nilIface] 184)).alloc (.cells #[.int .u64 0] 212)).alloc (.cells #[.int .u64 0] 212)).alloc (.cells #[.int .i64 0] 3)).heap.size = w.heap.size + 5 ∧ Below w.heap.size w (((((w.alloc (.cells #[.int .i64 0] 3)).alloc (.cells #[.nilIface] 184)).alloc (.cells #[.int .u64 0] 212)).alloc (.cells #[.int .u64 0] 212)).alloc (.cells #[.int .i64 0] 3)) := by
  refine ⟨((((Boxed.new w _ _).alloc _).alloc _).alloc _).alloc _, ?_, ?_, ?_, ?_, by simp, ?_⟩
  · have := Boxed.new (w.alloc (.cells #[.int .i64 0] 3)) 184 .nilIface
    simp only [World.size_alloc] at this
    exact ((this.alloc _).alloc _).alloc _
  · have := Boxed.new ((w.alloc (.cells #[.int .i64 0] 3)).alloc (.cells #[.nilIface] 184)) 212 (.int .u64 0)
    simp only [World.size_alloc] at this
    exact (this.alloc _).alloc _
  · have := Boxed.new (((w.alloc (.cells #[.int .i64 0] 3)).alloc (.cells #[.nilIface] 184)).alloc (.cells #[.int .u64 0] 212)) 212 (.int .u64 0)
    simp only [World.size_alloc] at this
    exact this.alloc _
  · have := Boxed.new ((((w.alloc (.cells #[.int .i64 0] 3)).alloc (.cells #[.nilIface] 184)).alloc (.cells #[.int .u64 0] 212)).alloc (.cells #[.int .u64 0] 212)) 3 (.int .i64 0)
    simp only [World.size_alloc] at this
    exact this
  · go_grown

section
variable {s : List UInt8} {a H B : Nat} {w W : World} {a1 : Addr} {pre q : List (Mor.Ix × UInt8)} {m sg : Int}
theorem set_keep2 {Ba Bt c : Nat} (ha : Ba ≠ c) (hb : Bt ≠ c) (W : World) (v : Value) : Keep2 Ba Bt W (W.setCell ⟨c, 0, none⟩ v) := ⟨Below.heap_setCell _ _ _ _ ha, Below.heap_setCell _ _ _ _ hb⟩
/-- The first byte is the last one. -/
theorem closeA (h : Mids s a H w pre W m sg) (m' sg' : Nat) {v1 v2 : Int} (e1 : v1 = m') (e2 : v2 = sg') (hg : Begs s a q → rdGo 0 (0, 0) (s.drop a) = .ok (m', sg', 1)) :
    KeepsFrom B W (((W.setCell ⟨H + 1 + 1, 0, none⟩ (.int .u64 v1)).setCell ⟨H + 1 + 1 + 1, 0, none⟩ (.int .u64 v2)).setCell ⟨H + 1 + 1 + 1 + 1, 0, none⟩ (.int .i64 1)) ∧
    Outs s a H w a1 (.exit 0) q (((W.setCell ⟨H + 1 + 1, 0, none⟩ (.int .u64 v1)).setCell ⟨H + 1 + 1 + 1, 0, none⟩ (.int .u64 v2)).setCell ⟨H + 1 + 1 + 1 + 1, 0, none⟩ (.int .i64 1)) := by
  subst e1 e2
  refine ⟨(((KeepsOthers.setCell _ _ _).trans (KeepsOthers.setCell _ _ _)).trans (KeepsOthers.setCell _ _ _)).from _, ?_, .inr ⟨rfl, m', sg', 0, ?_, ?_, ?_, ?_, ?_, by omega, hg⟩⟩
  · exact ((h.bl.setCell (p := ⟨H + 1 + 1, 0, none⟩) (by dsimp only; omega) _).setCell (p := ⟨H + 1 + 1 + 1, 0, none⟩) (by dsimp only; omega) _).setCell (p := ⟨H + 1 + 1 + 1 + 1, 0, none⟩) (by dsimp only; omega) _
  · exact ((h.bm.set _).other (by omega) _).other (by omega) _
  · exact ((h.bs.other (by omega) _).set _).other (by omega) _
  · exact ((h.bz.other (by omega) _).other (by omega) _).set _
  · exact ((h.b0.other (by omega) _).other (by omega) _).other (by omega) _
  · exact ((h.b1.other (by omega) _).other (by omega) _).other (by omega) _
/-- The first byte, and more to come. -/
theorem closeB (h : Mids s a H w pre W m sg) (m' sg' : Nat) {v1 v2 : Int} (e1 : v1 = m') (e2 : v2 = sg') (hm : m' < 64) {Ba Bt : Nat} (ha : Ba = H + 5 + 1) (hb : Bt = H + 5) (hg : Begs s a q → Mid s a q m' sg') :
    KeepsFrom B W ((W.setCell ⟨H + 1 + 1, 0, none⟩ (.int .u64 v1)).setCell ⟨H + 1 + 1 + 1, 0, none⟩ (.int .u64 v2)) ∧ Keep2 Ba Bt W ((W.setCell ⟨H + 1 + 1, 0, none⟩ (.int .u64 v1)).setCell ⟨H + 1 + 1 + 1, 0, none⟩ (.int .u64 v2)) ∧
    ∃ m sg, Mids s a H w q ((W.setCell ⟨H + 1 + 1, 0, none⟩ (.int .u64 v1)).setCell ⟨H + 1 + 1 + 1, 0, none⟩ (.int .u64 v2)) m sg := by
  subst e1 e2 ha hb
  refine ⟨((KeepsOthers.setCell _ _ _).trans (KeepsOthers.setCell _ _ _)).from _, keep2_t (set_keep2 (by omega) (by omega) _ _) (set_keep2 (by omega) (by omega) _ _), m', sg', ?_, ?_, ?_, ?_, ?_, by omega, by omega, by omega, ?_, hg⟩
  · exact (h.bm.set _).other (by omega) _
  · exact (h.bs.other (by omega) _).set _
  · exact (h.bz.other (by omega) _).other (by omega) _
  · exact (h.b0.other (by omega) _).other (by omega) _
  · exact (h.b1.other (by omega) _).other (by omega) _
  · exact (h.bl.setCell (p := ⟨H + 1 + 1, 0, none⟩) (by dsimp only; omega) _).setCell (p := ⟨H + 1 + 1 + 1, 0, none⟩) (by dsimp only; omega) _
/-- Another byte, and more to come. -/
theorem closeC (h : Mids s a H w pre W m sg) {v : Int} (h0 : 0 ≤ v) (h1 : v < 18446744073709551616) {Ba Bt : Nat} (ha : Ba = H + 5 + 1) (hb : Bt = H + 5) (hg : Begs s a q → Mid s a q v sg) :
    KeepsFrom B W (W.setCell ⟨H + 1 + 1, 0, none⟩ (.int .u64 v)).drew ∧ Keep2 Ba Bt W (W.setCell ⟨H + 1 + 1, 0, none⟩ (.int .u64 v)).drew ∧
    ∃ m sg, Mids s a H w q (W.setCell ⟨H + 1 + 1, 0, none⟩ (.int .u64 v)).drew m sg := by
  subst ha hb
  refine ⟨((KeepsOthers.setCell _ _ _).trans (KeepsOthers.drew _)).from _, set_keep2 (by omega) (by omega) W _, v, sg, ?_, ?_, ?_, ?_, ?_, h0, h1, h.s0, ?_, hg⟩
  · exact h.bm.set _
  · exact h.bs.other (by omega) _
  · exact h.bz.other (by omega) _
  · exact h.b0.other (by omega) _
  · exact h.b1.other (by omega) _
  · exact (h.bl.setCell (p := ⟨H + 1 + 1, 0, none⟩) (by dsimp only; omega) _).drew
/-- Another byte is the last one. -/
theorem closeD (h : Mids s a H w pre W m sg) {v : Int} {k : Nat} (hk : k < 1125899906842624) (h0 : 0 ≤ v) (hsg : 0 ≤ sg) (hg : Begs s a q → rdGo 0 (0, 0) (s.drop a) = .ok (v.toNat, sg.toNat, k + 1)) :
    KeepsFrom B W ((W.setCell ⟨H + 1 + 1, 0, none⟩ (.int .u64 v)).setCell ⟨H + 1 + 1 + 1 + 1, 0, none⟩ (.int .i64 ((k : Int) + 1))).drew ∧
    Outs s a H w a1 (.exit 0) q ((W.setCell ⟨H + 1 + 1, 0, none⟩ (.int .u64 v)).setCell ⟨H + 1 + 1 + 1 + 1, 0, none⟩ (.int .i64 ((k : Int) + 1))).drew := by
  obtain ⟨v, rfl⟩ := Int.eq_ofNat_of_zero_le h0
  obtain ⟨sg, rfl⟩ := Int.eq_ofNat_of_zero_le hsg
  refine ⟨(((KeepsOthers.setCell _ _ _).trans (KeepsOthers.setCell _ _ _)).trans (KeepsOthers.drew _)).from _, ?_, .inr ⟨rfl, v, sg, k, ?_, ?_, ?_, ?_, ?_, hk, hg⟩⟩
  · exact ((h.bl.setCell (p := ⟨H + 1 + 1, 0, none⟩) (by dsimp only; omega) _).setCell (p := ⟨H + 1 + 1 + 1 + 1, 0, none⟩) (by dsimp only; omega) _).drew
  · exact (h.bm.set _).other (by omega) _
  · exact (h.bs.other (by omega) _).other (by omega) _
  · exact (h.bz.other (by omega) _).set _
  · exact (h.b0.other (by omega) _).other (by omega) _
  · exact (h.b1.other (by omega) _).other (by omega) _
/-- A byte that is none. -/
theorem closeE (h : Mids s a H w pre W m sg) (hg : Begs s a q → rdGo 0 (0, 0) (s.drop a) = .error true) {W' : World} (hW : W' = ((W.setCell ⟨H, 0, none⟩ (.int .i64 0)).setCell ⟨H + 1, 0, none⟩ (.iface 261 (.pointer (some a1)))).drew) :
    KeepsFrom B W W' ∧ Outs s a H w a1 .ret q W' := by
  subst hW
  refine ⟨(((KeepsOthers.setCell _ _ _).trans (KeepsOthers.setCell _ _ _)).trans (KeepsOthers.drew _)).from _, ?_, .inl ⟨rfl, ?_, ?_, hg⟩⟩
  · exact ((h.bl.setCell (p := ⟨H, 0, none⟩) (Nat.le_refl _) _).setCell (p := ⟨H + 1, 0, none⟩) (by dsimp only; omega) _).drew
  · exact (h.b0.set _).other (by omega) _
  · exact (h.b1.other (by omega) _).set _
end

/-- 'group << (7*k - 1)'. -/
theorem shl_any (P : Program) (y : UInt8) (k : Nat) (hk : k < 1125899906842624) (hk0 : ¬ k = 0) : ∃ G : Int, 0 ≤ G ∧ G < 18446744073709551616 ∧ Hid (G = IntKind.u64.wrap ((y.toNat : Int) % 128 * 2 ^ min (7 * k - 1) 64)) ∧
    ∀ W, (Op.shift .shl .u64 ((y.toNat : Int) % 128) .i64 (IntKind.i64.wrap (IntKind.i64.wrap (7 * (k : Int)) - 1))).run P W = .ok (.int .u64 G) W := by
  refine ⟨IntKind.u64.wrap ((y.toNat : Int) % 128 * 2 ^ min (7 * k - 1) 64), ?_, ?_, rfl, fun W => ?_⟩
  · simp [IntKind.wrap_u64]; omega
  · simp [IntKind.wrap_u64]; omega
  · rw [IntWalk.i64_in (7 * (k : Int)) (by omega), IntWalk.i64_in _ (by omega)]
    have h1 : ¬ (7 * (k : Int) - 1 < 0) := by omega
    have h2 : (7 * (k : Int) - 1).toNat = 7 * k - 1 := by omega
    simp only [Op.shift, h1, if_false, h2, IntKind.bits]
    rfl

theorem keepObj {W W' : World} {D : Nat} {o : Obj} (h : KeepsOthers W W') (hK : W.heap[D]? = some o) (ho : o.isCells = false) : W'.heap[D]? = some o := h.same D o hK ho
theorem rd_err {s : List UInt8} {a : Nat} (hin : a < s.length) {e : Bool} (h : rdGo 0 (0, 0) (s.drop a) = .error e) : rd s a = .error e := by
  simp only [rd, Int.toNat_natCast, h]
  rw [if_pos (by omega)]
theorem rd_ok {s : List UInt8} {a m sg z : Nat} (hin : a < s.length) (h : rdGo 0 (0, 0) (s.drop a) = .ok (m, sg, z)) : rd s a = .ok (if sg = 1 then -1 - (m : Int) else m, z) := by
  simp only [rd, Int.toNat_natCast, h]
  rw [if_pos (by omega)]
/-- The reader's place goes on; the two results are stored. -/
theorem closeOk {s : List UInt8} {a b D : Nat} {w W : World} {v : Int} {x : Int} (hbl : Below w.heap.size w W) (hb : W.heap[b]? = some (.cells #[.string (str s), .int .i64 a] 215 (0, 0))) (hbw : b < w.heap.size)
    (hK : W.heap[D]? = some (.deferred (some []))) (hD : w.heap.size + 7 ≤ D) (bx0 : Boxed W w.heap.size 3 (.int .i64 0)) (bx1 : Boxed W (w.heap.size + 1) 184 .nilIface) {W' : World}
    (hW : W' = (((W.setCell ⟨b, 1, none⟩ (.int .i64 v)).setCell ⟨w.heap.size, 0, none⟩ (.int .i64 x)).setCell ⟨w.heap.size + 1, 0, none⟩ .nilIface).drew) :
    W'.heap[D]? = some (.deferred (some [])) ∧ (W'.putObj D (.deferred none)).cell? ⟨w.heap.size, 0, none⟩ = some (.int .i64 x) ∧ (W'.putObj D (.deferred none)).cell? ⟨w.heap.size + 1, 0, none⟩ = some .nilIface ∧
    w.grownBy (W'.putObj D (.deferred none)) (some b) ∧ (W'.putObj D (.deferred none)).heap[b]? = some (.cells #[.string (str s), .int .i64 v] 215 (0, 0)) := by
  subst hW
  have hK2 := keepObj ((((KeepsOthers.setCell W ⟨b, 1, none⟩ (.int .i64 v)).trans (KeepsOthers.setCell _ ⟨w.heap.size, 0, none⟩ (.int .i64 x))).trans (KeepsOthers.setCell _ ⟨w.heap.size + 1, 0, none⟩ .nilIface)).trans (KeepsOthers.drew _)) hK rfl
  have k0 : Boxed (W.setCell ⟨b, 1, none⟩ (.int .i64 v)) w.heap.size 3 (.int .i64 0) := (Below.heap_setCell _ _ _ _ (by dsimp only; omega)).trans bx0
  have k1 : Boxed (W.setCell ⟨b, 1, none⟩ (.int .i64 v)) (w.heap.size + 1) 184 .nilIface := (Below.heap_setCell _ _ _ _ (by dsimp only; omega)).trans bx1
  have q0 : Boxed (((W.setCell ⟨b, 1, none⟩ (.int .i64 v)).setCell ⟨w.heap.size, 0, none⟩ (.int .i64 x)).setCell ⟨w.heap.size + 1, 0, none⟩ .nilIface).drew w.heap.size 3 (.int .i64 x) := (k0.set _).other (by omega) _
  have q1 : Boxed (((W.setCell ⟨b, 1, none⟩ (.int .i64 v)).setCell ⟨w.heap.size, 0, none⟩ (.int .i64 x)).setCell ⟨w.heap.size + 1, 0, none⟩ .nilIface).drew (w.heap.size + 1) 184 .nilIface := (k1.other (by omega) _).set _
  have hbb : (((W.setCell ⟨b, 1, none⟩ (.int .i64 v)).setCell ⟨w.heap.size, 0, none⟩ (.int .i64 x)).setCell ⟨w.heap.size + 1, 0, none⟩ .nilIface).heap[b]? = some (.cells #[.string (str s), .int .i64 v] 215 (0, 0)) := by
    rw [Below.heap_setCell _ _ _ _ (by dsimp only; omega), Below.heap_setCell _ _ _ _ (by dsimp only; omega)]
    simp [World.setCell, Array.getElem?_modify, hb]
  refine ⟨hK2, ?_, ?_, ?_, ?_⟩
  · exact (boxKeep q0 (grownBy_putObj' _ D (.deferred none)) (fun r e => by cases e; exact ⟨_, hK2, rfl⟩)).cell
  · exact (boxKeep q1 (grownBy_putObj' _ D (.deferred none)) (fun r e => by cases e; exact ⟨_, hK2, rfl⟩)).cell
  · refine ⟨hbl.os, hbl.tape, hbl.output, ?_, fun k hk hne => ?_⟩
    · have := hbl.size
      have := (grownBy_putObj' (((W.setCell ⟨b, 1, none⟩ (.int .i64 v)).setCell ⟨w.heap.size, 0, none⟩ (.int .i64 x)).setCell ⟨w.heap.size + 1, 0, none⟩ .nilIface).drew D (.deferred none)).size
      simp [World.size_setCell, World.drew] at this ⊢
      omega
    · rw [World.putObj_heap_other (fun e => by omega)]
      show (((W.setCell ⟨b, 1, none⟩ (.int .i64 v)).setCell ⟨w.heap.size, 0, none⟩ (.int .i64 x)).setCell ⟨w.heap.size + 1, 0, none⟩ .nilIface).heap[k]? = _
      have hkb : k ≠ b := fun e => hne (by rw [e])
      rw [Below.heap_setCell _ _ _ _ (by dsimp only; omega), Below.heap_setCell _ _ _ _ (by dsimp only; omega), Below.heap_setCell _ _ _ _ (by dsimp only; omega), hbl.block k hk]
  · rw [World.putObj_heap_other (fun e => by omega)]
    exact hbb
theorem begs_all (s : List UInt8) (a : Nat) : Begs s a (pairs s a) := List.prefix_refl _

set_option maxRecDepth 100000 in
set_option maxHeartbeats 4000000 in
theorem number_go (s : List UInt8) (a : Nat) (b : Nat) (a0 a1 : Addr) (w : World) (hs : s.length < 1125899906842624) (hin : a < s.length)
    (hG : Glob w a0 a1) (hb : w.heap[b]? = some (.cells #[.string (str s), .int .i64 a] 215 (0, 0))) :
    Calls Tryz.prog 169 #[.pointer (some ⟨b, 0, none⟩)] w (NumPost s a b a0 a1 w) := by
  have hmix : Tryz.prog.follows .mixedOrders = true := by kernel_rfl
  have hblt := heap_lt hb
  have c0 : w.cell? ⟨b, 0, none⟩ = some (.string (str s)) := blk_cells hb 0
  have c1 : w.cell? ⟨b, 0 + 1, none⟩ = some (.int .i64 a) := blk_cells hb 1
  have e0 := hG.e0
  have e1 := hG.e1
  have g0 := cell_lt e0
  have g1 := cell_lt e1
  dsimp only at g0 g1
  have hhas : ∀ W, Calls Tryz.prog 182 #[.string (str s), .int .i64 a, .int .i64 1] W fun e w' => e = .returned (.bool true) ∧ w' = W := fun W => by
    have := has_any s a 1 W (by omega) (by omega) (by omega)
    rwa [decide_eq_true (by omega)] at this
  have HH := Lib.hid hhas
  have HG := Lib.hid hG
  have HB := Lib.hid hb
  clear hhas hG hb
  refine callsIn_wide.1 (callsIn_of_wp_marks (n := 9) Tryz.func169 rfl trivial (wpIn_wide.2 ?_) rfl); simp only [Tryz.ntmps169, List.size_toArray, List.length_cons, List.length_nil, Nat.reduceAdd, Nat.reduceSub, Array.replicate_succ, Array.replicate_zero, List.push_toArray, List.append_toArray, List.nil_append, List.cons_append]
  go_wp2_with fail
  go_step3
  go_wp2_with fail
  refine wp_region_tail 9 hmix (by kernel_rfl) ?_; simp only [List.take_succ_cons, List.take_zero, List.drop_succ_cons, List.drop_zero]
  iterate 8 still_step
  still_call (HH.out _)
  refine wpStill_nil ?_
  go_wp2_with fail
  go_step3
  go_wp2_with fail
  obtain ⟨B0, B1, B2, B3, B4, hsz, hBl⟩ := boxes5 w
  obtain ⟨W0, hW0⟩ : ∃ W0, (((((w.alloc (.cells #[.int .i64 0] 3)).alloc (.cells #[.nilIface] 184)).alloc (.cells #[.int .u64 0] 212)).alloc (.cells #[.int .u64 0] 212)).alloc (.cells #[.int .i64 0] 3)) = W0 := ⟨_, rfl⟩
  rw [hW0] at B0 B1 B2 B3 B4 hsz hBl ⊢
  clear hW0
  have d0 := (hBl.cell (p := ⟨b, 0, none⟩) hblt).trans c0
  have d1 := (hBl.cell (p := ⟨b, 0 + 1, none⟩) hblt).trans c1
  have HS := Lib.hid hsz
  clear hsz
  refine wp_region_tail 8 hmix (by kernel_rfl) ?_; simp only [List.take_succ_cons, List.take_zero, List.drop_succ_cons, List.drop_zero]
  iterate 8 still_step
  refine wpStill_nil ?_
  go_wp2_with fail
  refine (from_any _ _ _).mono ?_
  rintro e w' ⟨rfl, rfl⟩
  go_wp2_with fail
  have BT0 := (Boxed.new W0 213 (.string (str s))).alloc (.cells #[.int .i64 a] 3)
  have BA0 := Boxed.new (W0.alloc (.cells #[.string (str s)] 213)) 3 (.int .i64 a)
  rw [World.size_alloc] at BA0
  obtain ⟨W1, hW1⟩ : ∃ W1, ((W0.alloc (.cells #[.string (str s)] 213)).alloc (.cells #[.int .i64 a] 3)).drew.drew = W1 := ⟨_, rfl⟩
  have BT : Boxed W1 W0.heap.size 213 (.string (str s)) := by rw [← hW1]; exact BT0
  have BA : Boxed W1 (W0.heap.size + 1) 3 (.int .i64 a) := by rw [← hW1]; exact BA0
  have b0 : Boxed W1 w.heap.size 3 (.int .i64 0) := by rw [← hW1]; exact (B0.alloc _).alloc _
  have b1 : Boxed W1 (w.heap.size + 1) 184 .nilIface := by rw [← hW1]; exact (B1.alloc _).alloc _
  have b2 : Boxed W1 (w.heap.size + 1 + 1) 212 (.int .u64 0) := by rw [← hW1]; exact (B2.alloc _).alloc _
  have b3 : Boxed W1 (w.heap.size + 1 + 1 + 1) 212 (.int .u64 0) := by rw [← hW1]; exact (B3.alloc _).alloc _
  have b4 : Boxed W1 (w.heap.size + 1 + 1 + 1 + 1) 3 (.int .i64 0) := by rw [← hW1]; exact (B4.alloc _).alloc _
  have hBl1 : Below w.heap.size w W1 := by rw [← hW1]; exact ((((hBl).alloc hBl.size _).alloc (by have := hBl.size; simp; omega) _).drew).drew
  have hs1 : W1.heap.size = w.heap.size + 7 := by rw [← hW1]; simp [World.drew, HS.out]
  rw [hW1]
  have H0 := HS.out
  clear BT0 BA0 hW1 B0 B1 B2 B3 B4 hBl d0 d1
  refine (wpIn_wide (n := 9)).1 (wpIn_rangeFunc_ownG rfl (by omega) (gf := 194) (lb := #[.pointer (some ⟨W0.heap.size + 1, 0, none⟩), .pointer (some ⟨W0.heap.size, 0, none⟩)]) rfl trivial (enters_of Tryz.func194 (by kernel_rfl) rfl)
    (from_stops 8 (W0.heap.size + 1) W0.heap.size s a (by omega) hs W1 BA.cell BT.cell) keep2_t (keep2_b (by omega) (by omega)) (Below.refl _ _) (fun _ => rfl)
    (fun pre W => ∃ m sg, Mids s a w.heap.size w pre W m sg)
    (fun c pre W => Outs s a w.heap.size w a1 c pre W) ?hI ?hIx ⟨0, 0, b2, b3, b4, b0, b1, by omega, by omega, by omega, hBl1, fun _ => ⟨rfl, rfl, rfl, by decide, by simp⟩⟩ ?a1 ?assign ?body ?done ?stop)
  case hI =>
    rintro pre X Y row ⟨m, sg, h⟩ hg hr
    have hr' := fun r e => (hr r e).2
    exact ⟨m, sg, boxKeep h.bm hg hr', boxKeep h.bs hg hr', boxKeep h.bz hg hr', boxKeep h.b0 hg hr', boxKeep h.b1 hg hr', h.m0, h.m1, h.s0, h.bl.grown hg h.bl.size (fun k e => by have := (hr k e).1; omega), h.good⟩
  case hIx =>
    rintro c pre X Y row ⟨hbl, h⟩ hg hr
    have hr' := fun r e => (hr r e).2
    refine ⟨hbl.grown hg hbl.size (fun k e => by have := (hr k e).1; omega), ?_⟩
    rcases h with ⟨hc, h0, h1, hgd⟩ | ⟨hc, m, sg, z, h2, h3, h4, h0, h1, hz, hgd⟩
    · exact .inl ⟨hc, boxKeep h0 hg hr', boxKeep h1 hg hr', hgd⟩
    · exact .inr ⟨hc, m, sg, z, boxKeep h2 hg hr', boxKeep h3 hg hr', boxKeep h4 hg hr', boxKeep h0 hg hr', boxKeep h1 hg hr', hz, hgd⟩
  case assign =>
    intro l x W K hK
    gi_wp2
    exact hK
  case body =>
    rintro l pre ⟨⟨k, hk⟩, y⟩ W ⟨m, sg, h⟩ hlt
    dsimp only
    have hy : y.toNat < 256 := y.toNat_lt
    have hm0 := h.m0
    have hm1 := h.m1
    have cm := h.bm.cell
    have fm := h.bm.frozen
    have cs := h.bs.cell
    have fs := h.bs.frozen
    have cz := h.bz.cell
    have fz := h.bz.frozen
    have cr := h.b0.cell
    have fr := h.b0.frozen
    have ce := h.b1.cell
    have fe := h.b1.frozen
    have hMi := Lib.hid h
    clear h H0 BT BA b0 b1 b2 b3 b4 hBl1 hlt c0 c1 e0
    have hand : bits .and .u8 (y.toNat : Int) 127 = ((y.toNat % 128 : Nat) : Int) := by
      have := (by decide +kernel : ∀ z : Fin 256, bits .and .u8 ((z.val : Nat) : Int) 127 = ((z.val % 128 : Nat) : Int)) ⟨y.toNat, hy⟩
      exact this
    obtain ⟨X, hX⟩ : ∃ X : Mor.Ix × UInt8, X = (⟨k, hk⟩, y) := ⟨_, rfl⟩
    have hXk : X.1.val = k := by rw [hX]
    have hXy : X.2 = y := by rw [hX]
    rw [← hX]
    have HX1 := Lib.hid hXk
    have HX2 := Lib.hid hXy
    clear hX hXk hXy
    by_cases hk0 : k = 0
    · subst hk0
      by_cases hlo : y.toNat < 128
      · gi_wp2_with fail
        refine closeA hMi.out (y.toNat % 128 / 2) (y.toNat % 128 % 2) (by omega) (by omega) (fun hg => ?_)
        rw [Mid.ok hs hMi.out.good (by rw [HX1.out]; simp) (by rw [HX2.out]; exact hlo) hg, HX1.out]
        simp [stepM, HX1.out, HX2.out]
      · gi_wp2_with fail
        refine closeB hMi.out (y.toNat % 128 / 2) (y.toNat % 128 % 2) (by omega) (by omega) (by omega) (Ba := W0.heap.size + 1) (Bt := W0.heap.size) (by have := HS.out; omega) HS.out (fun hg => ?_)
        have := Mid.cont hs hMi.out.good (by rw [HX1.out]; simp) (by rw [HX2.out]; omega) hg
        simpa [stepM, HX1.out, HX2.out] using this
    · have hk1 : ((k : Int) == 0) = false := by simp; omega
      by_cases hbad : y.toNat = 0 ∨ k = 9 ∧ 1 < y.toNat
      · have HE : Begs s a (pre ++ [X]) → rdGo 0 (0, 0) (s.drop a) = .error true := fun hg => Mid.err hs hMi.out.good (by rw [HX1.out]; exact hk0) (by rw [HX1.out, HX2.out]; exact hbad) hg
        have HE' := Lib.hid HE
        have ge := (hMi.out.bl.cell (p := ⟨3, 0, none⟩) g1).trans e1
        clear HE
        by_cases hy0 : y.toNat = 0
        · have hy1 : ((y.toNat : Int) == 0) = true := by simp; omega
          have HY0 := Lib.hid hy0
          clear hy0 hbad
          gi_wp2_with fail
          gi_region_with_o (fail)
          all_goals gi_wp2_with fail
          all_goals exact closeE hMi.out HE'.out rfl
        · have hy1 : ((y.toNat : Int) == 0) = false := by simp; omega
          have hk9' : ((k : Int) == 9) = true := by simp; omega
          have hgt : 1 < (y.toNat : Int) := by omega
          have HB := Lib.hid hbad
          clear hbad
          gi_wp2_with fail
          gi_region_with_o (fail)
          all_goals gi_wp2_with fail
          all_goals exact closeE hMi.out HE'.out rfl
      · have hy0 : ((y.toNat : Int) == 0) = false := by simp; omega
        have hstep : Hid (∀ G : Int, G = IntKind.u64.wrap ((y.toNat : Int) % 128 * 2 ^ min (7 * k - 1) 64) → Begs s a (pre ++ [X]) → bits .or .u64 m G = ((stepM (stM pre) X).1 : Nat) ∧ sg = ((stepM (stM pre) X).2 : Nat)) :=
          fun G hG hg => or_step hs hMi.out.good (by rw [HX1.out]; exact hk0) (by rw [HX1.out, HX2.out]; exact hbad) (by rw [HX1.out, HX2.out]; exact hG) hg
        have hnb : Hid (¬ (X.1.val ≠ 0 ∧ (X.2.toNat = 0 ∨ X.1.val = 9 ∧ 1 < X.2.toNat))) := by
          show ¬ _
          rw [HX1.out, HX2.out]
          exact fun hc => hbad hc.2
        obtain ⟨G, hG0, hG1, HGe, hsh⟩ := shl_any Tryz.prog y k hk hk0
        have HSH := Lib.hid hsh
        clear hsh
        obtain ⟨M, hM⟩ : ∃ M, bits .or .u64 m G = M := ⟨_, rfl⟩
        have hMb : 0 ≤ M ∧ M < 18446744073709551616 := by
          obtain ⟨m, rfl⟩ := Int.eq_ofNat_of_zero_le hm0
          obtain ⟨G, rfl⟩ := Int.eq_ofNat_of_zero_le hG0
          have := Nat.or_lt_two_pow (n := 64) (x := m) (y := G) (by omega) (by omega)
          rw [← hM, u64_or_nat _ _ (by omega) (by omega)]
          omega
        obtain ⟨hM0, hM1⟩ := hMb
        have HM := Lib.hid hM
        clear hM
        by_cases hk9 : k = 9
        · have hk9' : ((k : Int) == 9) = true := by simp; omega
          have hgt : ¬ (1 < (y.toNat : Int)) := by omega
          have hHk := Lib.hid hk9
          clear hk9
          gi_wp2_with fail
          have hsh := HSH.out
          have hM := HM.out
          refine wpIn_region_still_tail (open_round l) 7 hmix (by kernel_rfl) ?_; simp only [List.take_succ_cons, List.take_zero, List.drop_succ_cons, List.drop_zero]
          iterate 7 still_step
          refine wpStill_nil ?_
          clear hsh hM
          gi_wp2_with fail
          refine closeD hMi.out hk hM0 hMi.out.s0 (fun hg => ?_)
          obtain ⟨q1, q2⟩ := hstep.out G HGe.out hg
          rw [HM.out] at q1
          have hlo : y.toNat < 128 := by omega
          rw [q1, q2]
          simpa [HX1.out] using Mid.ok hs hMi.out.good hnb.out (by rw [HX2.out]; exact hlo) hg
        · have hk9' : ((k : Int) == 9) = false := by simp; omega
          gi_wp2_with fail
          have hsh := HSH.out
          have hM := HM.out
          refine wpIn_region_still_tail (open_round l) 7 hmix (by kernel_rfl) ?_; simp only [List.take_succ_cons, List.take_zero, List.drop_succ_cons, List.drop_zero]
          iterate 7 still_step
          refine wpStill_nil ?_
          clear hsh hM
          gi_wp2_with fail
          · refine closeD hMi.out hk hM0 hMi.out.s0 (fun hg => ?_)
            obtain ⟨q1, q2⟩ := hstep.out G HGe.out hg
            rw [HM.out] at q1
            have hlo : y.toNat < 128 := by omega
            rw [q1, q2]
            simpa [HX1.out] using Mid.ok hs hMi.out.good hnb.out (by rw [HX2.out]; exact hlo) hg
          · refine closeC hMi.out hM0 hM1 (Ba := W0.heap.size + 1) (Bt := W0.heap.size) (by have := HS.out; omega) HS.out (fun hg => ?_)
            obtain ⟨q1, q2⟩ := hstep.out G HGe.out hg
            rw [HM.out] at q1
            have hlo : 128 ≤ y.toNat := by omega
            rw [q1, q2]
            exact Mid.cont hs hMi.out.good hnb.out (by rw [HX2.out]; exact hlo) hg
  case done =>
    rintro D ys W hD rfl ⟨m, sg, h⟩ hK
    have cz := h.bz.cell
    have cr := h.b0.cell
    have fr := h.b0.frozen
    have ce := h.b1.cell
    have fe := h.b1.frozen
    have ge := (h.bl.cell (p := ⟨2, 0, none⟩) g0).trans e0
    have hMi := Lib.hid h
    have HK := Lib.hid hK
    clear h H0 BT BA b0 b1 b2 b3 b4 hBl1 c0 c1 e0 e1 hK
    go_wp2_with fail
    go_region
    all_goals go_wp2_with fail
    all_goals
      rw [Exit.noGoto_ret]
      have bx0 : Boxed ((W.setCell ⟨w.heap.size, 0, none⟩ (.int .i64 0)).setCell ⟨w.heap.size + 1, 0, none⟩ (.iface 261 (.pointer (some a0)))).drew w.heap.size 3 (.int .i64 0) := (hMi.out.b0.set (.int .i64 0)).other (show w.heap.size ≠ w.heap.size + 1 by omega) (.iface 261 (.pointer (some a0)))
      have bx1 : Boxed ((W.setCell ⟨w.heap.size, 0, none⟩ (.int .i64 0)).setCell ⟨w.heap.size + 1, 0, none⟩ (.iface 261 (.pointer (some a0)))).drew (w.heap.size + 1) 184 (.iface 261 (.pointer (some a0))) := (hMi.out.b1.other (show w.heap.size + 1 ≠ w.heap.size by omega) (.int .i64 0)).set (.iface 261 (.pointer (some a0)))
      have hK2 := keepObj (((KeepsOthers.setCell W ⟨w.heap.size, 0, none⟩ (.int .i64 0)).trans (KeepsOthers.setCell _ ⟨w.heap.size + 1, 0, none⟩ (.iface 261 (.pointer (some a0))))).trans (KeepsOthers.drew _)) HK.out rfl
      refine ⟨by simp, .inl ⟨_, _, rfl, run_takeDeferred hK2, ?_⟩⟩
      have r0 := (boxKeep bx0 (grownBy_putObj' _ D (.deferred none)) (fun r e => by cases e; exact ⟨_, hK2, rfl⟩)).cell
      have r1 := (boxKeep bx1 (grownBy_putObj' _ D (.deferred none)) (fun r e => by cases e; exact ⟨_, hK2, rfl⟩)).cell
      refine ⟨.tuple #[.int .i64 0, .iface 261 (.pointer (some a0))], by simp [results, Tryz.results169, go_sem, r0, r1], ?_⟩
      have hgo := (hMi.out.good (begs_all s a)).go
      rw [pairs_length, show a + (s.length - a) = s.length by omega, List.drop_length] at hgo
      unfold NumPost
      rw [rd_err hin hgo]
      exact ⟨rfl, (((hMi.out.bl.setCell (p := ⟨w.heap.size, 0, none⟩) (Nat.le_refl _) _).setCell (p := ⟨w.heap.size + 1, 0, none⟩) (by dsimp only; omega) _).drew).trans (belowK_b (w := w) (Nat.le_refl _) _ D _ _ (by omega) hK2 rfl rfl)⟩
  case stop =>
    rintro D c pre W hD hSp ⟨hbl, hO⟩ hK
    have HK := Lib.hid hK
    have HL := Lib.hid hbl
    rcases hO with ⟨rfl, bx0, bx1, hgd⟩ | ⟨rfl, m, sg, z, bm, bs, bz, bx0, bx1, hz, hgd⟩
    · refine wpIn_wide.2 ?_
      have hgo := hgd hSp
      clear H0 BT BA b0 b1 b2 b3 b4 hBl1 c0 c1 e0 e1 hK hgd hbl
      go_wp2_with fail
      rw [Exit.noGoto_ret]
      have hK2 := HK.out
      refine ⟨by simp, .inl ⟨_, _, rfl, run_takeDeferred hK2, ?_⟩⟩
      have r0 := (boxKeep bx0 (grownBy_putObj' _ D (.deferred none)) (fun r e => by cases e; exact ⟨_, hK2, rfl⟩)).cell
      have r1 := (boxKeep bx1 (grownBy_putObj' _ D (.deferred none)) (fun r e => by cases e; exact ⟨_, hK2, rfl⟩)).cell
      refine ⟨.tuple #[.int .i64 0, .iface 261 (.pointer (some a1))], by simp [results, Tryz.results169, go_sem, r0, r1], ?_⟩
      unfold NumPost
      rw [rd_err hin hgo]
      exact ⟨rfl, HL.out.trans (belowK_b (w := w) (Nat.le_refl _) _ D _ _ (by omega) hK2 rfl rfl)⟩
    · have HR := Lib.hid (rd_ok hin (hgd hSp))
      have hb2 : W.heap[b]? = some (.cells #[.string (str s), .int .i64 a] 215 (0, 0)) := (hbl.block b hblt).trans HB.out
      have d0 : W.cell? ⟨b, 0, none⟩ = some (.string (str s)) := blk_cells hb2 0
      have d1 : W.cell? ⟨b, 0 + 1, none⟩ = some (.int .i64 a) := blk_cells hb2 1
      have d2 : W.frozen? ⟨b, 0 + 1, none⟩ = false := blk_frozen hb2 1
      have cm := bm.cell
      have cs := bs.cell
      have cz := bz.cell
      have cr := bx0.cell
      have fr := bx0.frozen
      have ce := bx1.cell
      have fe := bx1.frozen
      have hHB := Lib.hid hb2
      have hlz : (((z : Int) + 1) == 0) = false := by simp; omega
      obtain ⟨hm63, hsg1, hz0, hz10, hzl⟩ := rdGo_bound (s.drop a) 0 (0, 0) (by omega) (by decide) (.inl rfl) (hgd hSp)
      have hm63' : (m : Int) < 9223372036854775808 := by omega
      simp only [List.length_drop] at hzl
      clear H0 BT BA b0 b1 b2 b3 b4 hBl1 c0 c1 e0 e1 hK hgd hbl hb2
      refine wpIn_wide.2 ?_
      by_cases hsg : sg = 1
      all_goals
        first
          | have hsgB : ((sg : Int) == 1) = true := by simp; omega
          | have hsgB : ((sg : Int) == 1) = false := by simp; omega
        have HSG := Lib.hid hsg
        clear hsg
        go_wp2_with fail
        have hw1 : IntKind.i64.wrap ((a : Int) + ((z : Int) + 1)) = (a : Int) + ((z : Int) + 1) := IntWalk.i64_in _ (by omega)
        refine wp_region_tail 8 hmix (by kernel_rfl) ?_; simp only [List.take_succ_cons, List.take_zero, List.drop_succ_cons, List.drop_zero]
        iterate 8 still_step
        refine wpStill_nil ?_
        clear hw1
        go_wp2_with fail
        rw [Exit.noGoto_ret]
        obtain ⟨hK2, r0, r1, hgr, hbk⟩ := closeOk HL.out hHB.out hblt HK.out (by omega) bx0 bx1 rfl
        refine ⟨by simp, .inl ⟨_, _, rfl, run_takeDeferred hK2, ?_⟩⟩
        refine ⟨_, by simp [results, Tryz.results169, go_sem, r0, r1]; rfl, ?_⟩
        unfold NumPost
        rw [HR.out]
        first
          | (rw [if_pos HSG.out]; exact ⟨rfl, hgr, hbk⟩)
          | (rw [if_neg HSG.out]; exact ⟨rfl, hgr, hbk⟩)
end Go.Proofs.YthjphllpkcnehaaGreatDoor
end

section
/- Layer 1 in plain words: what ReadNum, Text and ReadText answer. -/
namespace Go.Mor

/-- ReadNum: the number, the place behind it. -/
def readNum (s : List UInt8) (a : Int) : Option (Int × Int) :=
  match rd s a with
  | .ok (n, z) => some (n, a + z)
  | .error _ => none
/-- (*reader).words. -/
def rdW (s : List UInt8) (a : Int) : Except Bool (List UInt8 × Int) :=
  match rd s a with
  | .error e => .error e
  | .ok (n, z) => if n < 0 ∨ 10000 < n then .error true else if s.length - (a + z) < n then .error false else .ok ((s.drop (a + z).toNat).take n.toNat, a + z + n)
def readText (s : List UInt8) (a : Int) : Option (List UInt8 × Int) :=
  match rdW s a with
  | .ok (t, b) => some (t, b)
  | .error _ => none
def numRes (r : Option (Int × Int)) : Value := match r with | some (n, b) => .tuple #[.int .i64 n, .int .i64 b, .int .i64 0] | none => .tuple #[.int .i64 0, .int .i64 0, .int .i64 10]
def readRes (r : Option (List UInt8 × Int)) : Value := match r with | some (t, b) => .tuple #[.string (str t), .int .i64 b, .int .i64 0] | none => .tuple #[.string (str []), .int .i64 0, .int .i64 10]
def text (s : List UInt8) : List UInt8 := num s.length ++ s
def textRes (s : List UInt8) : Value := if s.length ≤ 10000 then .tuple #[.string (str (text s)), .int .i64 0] else .tuple #[.string (str []), .int .i64 10]
theorem rd_bound {s : List UInt8} {a : Int} {n : Int} {z : Nat} (h : rd s a = .ok (n, z)) : 0 ≤ a ∧ a + z ≤ s.length ∧ -9223372036854775808 ≤ n ∧ n ≤ 9223372036854775807 ∧ 0 < z ∧ z ≤ 10 := by
  unfold rd at h
  split at h
  · rename_i hin
    split at h
    · cases h
    · rename_i m sg z' he
      simp only [Except.ok.injEq, Prod.mk.injEq] at h
      obtain ⟨rfl, rfl⟩ := h
      have := rdGo_bound _ 0 (0, 0) (by omega) (by decide) (.inl rfl) he
      simp only [List.length_drop] at this
      refine ⟨by omega, by omega, ?_, ?_, by omega, by omega⟩ <;> split <;> omega
  · cases h
theorem readNum_bound {s : List UInt8} {a n b : Int} (h : readNum s a = some (n, b)) : 0 ≤ a ∧ a < b ∧ b ≤ s.length ∧ -9223372036854775808 ≤ n ∧ n ≤ 9223372036854775807 := by
  unfold readNum at h
  split at h
  · rename_i n' z he
    simp only [Option.some.injEq, Prod.mk.injEq] at h
    obtain ⟨rfl, rfl⟩ := h
    have := rd_bound he
    omega
  · cases h
theorem readText_bound {s t : List UInt8} {a b : Int} (h : readText s a = some (t, b)) : 0 ≤ a ∧ a < b ∧ b ≤ s.length ∧ t.length ≤ 10000 := by
  unfold readText at h
  split at h
  · rename_i t' b' he
    simp only [Option.some.injEq, Prod.mk.injEq] at h
    obtain ⟨rfl, rfl⟩ := h
    unfold rdW at he
    split at he
    · cases he
    · rename_i n z hr
      have := rd_bound hr
      split at he
      · cases he
      · split at he
        · cases he
        · simp only [Except.ok.injEq, Prod.mk.injEq] at he
          obtain ⟨rfl, rfl⟩ := he
          refine ⟨by omega, by omega, by omega, ?_⟩
          rw [List.length_take]
          omega
  · cases h
end Go.Mor
end

section
/- Layer 1: wire.ReadNum, wire.Text, wire.ReadText. -/
namespace Go.Proofs.YthjphllpkcnehaaGreatDoor
open Go Go.RowKit Go.Mor Go.Shelf

theorem number_any (s : List UInt8) (a : Int) (b : Nat) (a0 a1 : Addr) (w : World) (hs : s.length < 1125899906842624) (ha0 : -9223372036854775808 ≤ a) (ha1 : a ≤ 9223372036854775807)
    (hG : Glob w a0 a1) (hb : w.heap[b]? = some (.cells #[.string (str s), .int .i64 a] 215 (0, 0))) :
    Calls Tryz.prog 169 #[.pointer (some ⟨b, 0, none⟩)] w (NumPost s a b a0 a1 w) := by
  by_cases hin : 0 ≤ a ∧ a < s.length
  · obtain ⟨a, rfl⟩ := Int.eq_ofNat_of_zero_le hin.1
    exact number_go s a b a0 a1 w hs (by omega) hG hb
  · refine (number_out s a b a0 a1 w hs ha0 ha1 hG hb hin).mono ?_
    rintro e w' ⟨rfl, hbl⟩
    unfold NumPost
    rw [rd_out hin]
    exact ⟨rfl, hbl⟩

theorem blk_new (w : World) (t : TypeId) (cs : Array Value) : (w.alloc (.cells cs t)).heap[w.heap.size]? = some (.cells cs t (0, 0)) := World.alloc_heap_new w _
theorem below_new {w w' : World} {o : Obj} (hg : (w.alloc o).grownBy w' (some w.heap.size)) : Below w.heap.size w w' :=
  ((Below.refl w.heap.size w).alloc (Nat.le_refl _) o).grown hg (by simp) (fun k e => by cases e; exact Nat.le_refl _)

set_option maxRecDepth 10000 in
theorem ReadNum_any (s : List UInt8) (a : Int) (a0 a1 : Addr) (w : World) (hs : s.length < 1125899906842624) (ha0 : -9223372036854775808 ≤ a) (ha1 : a ≤ 9223372036854775807) (hG : Glob w a0 a1) :
    Calls Tryz.prog 152 #[.string (str s), .int .i64 a] w fun e w' =>
      e = .returned (numRes (readNum s a)) ∧ Below w.heap.size w w' := by
  have hmix : Tryz.prog.follows .mixedOrders = true := by kernel_rfl
  have hB1 : Below w.heap.size w (w.alloc (.cells #[.string (str s), .int .i64 a] 215)) := (Below.refl _ _).alloc (Nat.le_refl _) _
  have hG1 := hG.ext hB1
  have HN := Lib.hid (number_any s a w.heap.size a0 a1 _ hs ha0 ha1 hG1 (blk_new w 215 #[.string (str s), .int .i64 a]))
  have HG := Lib.hid hG
  clear hG hG1
  go_enter Tryz.func152, Tryz.ntmps152
  go_wp2_with fail
  refine HN.out.mono ?_
  intro e w' hp
  unfold NumPost at hp
  cases hr : rd s a with
  | error t =>
    rw [hr] at hp
    have hrn : readNum s a = none := by simp [readNum, hr]
    have HRN := Lib.hid hrn
    clear hr hrn
    cases t
    · obtain ⟨rfl, hbl⟩ := hp
      have hbl' := hB1.trans (hbl.mono (by simp))
      have HW := Lib.hid (wrong_end w' a0 a1 (HG.out.ext hbl'))
      go_wp2_with fail
      refine HW.out.mono ?_
      rintro e w2 ⟨rfl, rfl⟩
      go_wp2_with fail
      go_ret3
      exact ⟨by rw [HRN.out]; rfl, hbl'⟩
    · obtain ⟨rfl, hbl⟩ := hp
      have hbl' := hB1.trans (hbl.mono (by simp))
      have HW := Lib.hid (wrong_form w' a0 a1 (HG.out.ext hbl'))
      go_wp2_with fail
      refine HW.out.mono ?_
      rintro e w2 ⟨rfl, rfl⟩
      go_wp2_with fail
      go_ret3
      exact ⟨by rw [HRN.out]; rfl, hbl'⟩
  | ok p =>
    obtain ⟨n, z⟩ := p
    rw [hr] at hp
    have hrn : readNum s a = some (n, a + z) := by simp [readNum, hr]
    have HRN := Lib.hid hrn
    clear hr hrn
    obtain ⟨rfl, hgr, hbk⟩ := hp
    have hbl' := below_new hgr
    have HW := Lib.hid (wrong_nil w' a0 a1 (HG.out.ext hbl'))
    have c1 : w'.cell? ⟨w.heap.size, 0 + 1, none⟩ = some (.int .i64 (a + z)) := blk_cells hbk 1
    go_wp2_with fail
    refine HW.out.mono ?_
    rintro e w2 ⟨rfl, rfl⟩
    go_wp2_with fail
    refine wp_region_tail 5 hmix (by kernel_rfl) ?_; simp only [List.take_succ_cons, List.take_zero, List.drop_succ_cons, List.drop_zero]
    iterate 5 still_step
    refine wpStill_nil ?_
    go_wp2_with fail
    go_ret3
    exact ⟨by rw [HRN.out]; rfl, hbl'.drew⟩

theorem Text_any (s : List UInt8) (w : World) (hs : s.length ≤ 9223372036854775807) :
    Calls Tryz.prog 111 #[.string (str s)] w fun e w' =>
      e = .returned (textRes s) ∧ Below w.heap.size w w' := by
  by_cases hl : s.length ≤ 10000
  · have hnl := num_length (s.length : Int)
    go_enter Tryz.func111, Tryz.ntmps111
    go_wp2_with fail
    refine (Num_any _ (by omega) (by omega) _).mono ?_
    rintro e w2 ⟨rfl, hb2⟩
    go_wp2_with fail
    go_ret2
    exact ⟨by rw [textRes, if_pos hl]; rfl, hb2⟩
  · go_enter Tryz.func111, Tryz.ntmps111
    go_wp2_with fail
    go_ret2
    exact ⟨by rw [textRes, if_neg hl]; rfl, Below.refl _ _⟩

/-- What (*reader).words leaves. -/
def WordsPost (s : List UInt8) (a : Int) (b : Nat) (a0 a1 : Addr) (w : World) (e : Ending) (w' : World) : Prop :=
  match rdW s a with
  | .ok (t, z) => e = .returned (.tuple #[.string (str t), .nilIface]) ∧ w.grownBy w' (some b) ∧ w'.heap[b]? = some (.cells #[.string (str s), .int .i64 z] 215 (0, 0))
  | .error false => e = .returned (.tuple #[.string (str []), .iface 261 (.pointer (some a0))]) ∧ w.grownBy w' (some b)
  | .error true => e = .returned (.tuple #[.string (str []), .iface 261 (.pointer (some a1))]) ∧ w.grownBy w' (some b)

theorem grown_of_below {w w' : World} {r : Option Nat} (h : Below w.heap.size w w') : w.grownBy w' r := ⟨h.os, h.tape, h.output, h.size, fun k hk _ => h.block k hk⟩
theorem grown_drew {w w' : World} {r : Option Nat} (h : w.grownBy w' r) : w.grownBy w'.drew r := ⟨h.os, h.tape, h.output, h.size, h.block⟩
theorem grown_trans {w w' w2 : World} {r : Option Nat} (h : w.grownBy w' r) (h2 : w'.grownBy w2 r) : w.grownBy w2 r :=
  ⟨h2.os.trans h.os, h2.tape.trans h.tape, h2.output.trans h.output, Nat.le_trans h.size h2.size, fun k hk hn => (h2.block k (Nat.lt_of_lt_of_le hk h.size) hn).trans (h.block k hk hn)⟩
set_option maxHeartbeats 1000000 in
set_option maxRecDepth 100000 in
theorem words_any (s : List UInt8) (a : Int) (b : Nat) (a0 a1 : Addr) (w : World) (hs : s.length < 1125899906842624) (ha0 : -9223372036854775808 ≤ a) (ha1 : a ≤ 9223372036854775807)
    (hG : Glob w a0 a1) (hb : w.heap[b]? = some (.cells #[.string (str s), .int .i64 a] 215 (0, 0))) (hbG : 2 ≠ b ∧ 3 ≠ b) :
    Calls Tryz.prog 171 #[.pointer (some ⟨b, 0, none⟩)] w (WordsPost s a b a0 a1 w) := by
  have hmix : Tryz.prog.follows .mixedOrders = true := by kernel_rfl
  have HN := Lib.hid (number_any s a b a0 a1 w hs ha0 ha1 hG hb)
  have HG := Lib.hid hG
  have HB := Lib.hid hb
  clear hG hb
  go_enter Tryz.func171, Tryz.ntmps171
  go_wp2_with fail
  refine HN.out.mono ?_
  intro e w' hp
  unfold NumPost at hp
  cases hr : rd s a with
  | error t =>
    rw [hr] at hp
    have hrn : rdW s a = .error t := by simp [rdW, hr]
    have HRN := Lib.hid hrn
    clear hr hrn
    cases t
    · obtain ⟨rfl, hbl⟩ := hp
      go_wp2_with fail
      go_ret2
      unfold WordsPost
      rw [HRN.out]
      exact ⟨rfl, grown_of_below hbl⟩
    · obtain ⟨rfl, hbl⟩ := hp
      go_wp2_with fail
      go_ret2
      unfold WordsPost
      rw [HRN.out]
      exact ⟨rfl, grown_of_below hbl⟩
  | ok p =>
    obtain ⟨n, z⟩ := p
    rw [hr] at hp
    have hbd := rd_bound hr
    have HR := Lib.hid hr
    clear hr
    obtain ⟨rfl, hgr, hbk⟩ := hp
    have e0 := (World.cell?_of_block (w := w) (a := ⟨2, 0, none⟩) (hgr.block 2 (cell_lt HG.out.e0) (by simpa using hbG.1))).trans HG.out.e0
    have e1 := (World.cell?_of_block (w := w) (a := ⟨3, 0, none⟩) (hgr.block 3 (cell_lt HG.out.e1) (by simpa using hbG.2))).trans HG.out.e1
    have d0 : w'.cell? ⟨b, 0, none⟩ = some (.string (str s)) := blk_cells hbk 0
    have d1 : w'.cell? ⟨b, 0 + 1, none⟩ = some (.int .i64 (a + z)) := blk_cells hbk 1
    have d2 : w'.frozen? ⟨b, 0 + 1, none⟩ = false := blk_frozen hbk 1
    have HBK := Lib.hid hbk
    clear hbk
    by_cases hbad : n < 0 ∨ 10000 < n
    · have HRN : Hid (rdW s a = .error true) := by show _ = _; unfold rdW; rw [HR.out]; exact if_pos hbad
      have HBD := Lib.hid hbad
      clear hbad
      by_cases hn0 : n < 0
      · go_wp2_with fail
        go_region
        go_wp2_with fail
        go_ret2
        unfold WordsPost
        rw [HRN.out]
        exact ⟨rfl, grown_drew hgr⟩
      · have hn1 : 10000 < n := by have := HBD.out; omega
        go_wp2_with fail
        go_region
        go_wp2_with fail
        go_ret2
        unfold WordsPost
        rw [HRN.out]
        exact ⟨rfl, grown_drew hgr⟩
    · have hn0 : 0 ≤ n := by omega
      have hn1 : n ≤ 10000 := by omega
      clear hbad
      by_cases hfit : (s.length : Int) - (a + z) < n
      · have HRN : Hid (rdW s a = .error false) := by
          show _ = _; unfold rdW; rw [HR.out]; dsimp only; rw [if_neg (by omega), if_pos hfit]
        have hhas : ∀ W, Calls Tryz.prog 182 #[.string (str s), .int .i64 (a + z), .int .i64 n] W fun e w' => e = .returned (.bool false) ∧ w' = W := fun W => by
          have := has_any s (a + z) n W (by omega) (by omega) (by omega)
          rwa [decide_eq_false (by omega)] at this
        have HH := Lib.hid hhas
        clear hhas
        go_wp2_with fail
        refine wp_region_tail 10 hmix (by kernel_rfl) ?_; simp only [List.take_succ_cons, List.take_zero, List.drop_succ_cons, List.drop_zero]
        iterate 9 still_step
        still_call (HH.out _)
        refine wpStill_nil ?_
        go_wp2_with fail
        go_region
        all_goals go_wp2_with fail
        all_goals go_ret2
        all_goals unfold WordsPost
        all_goals rw [HRN.out]
        all_goals exact ⟨rfl, grown_drew (grown_drew hgr)⟩
      · have HRN : Hid (rdW s a = .ok ((s.drop (a + z).toNat).take n.toNat, a + z + n)) := by
          show _ = _; unfold rdW; rw [HR.out]; dsimp only; rw [if_neg (by omega), if_neg hfit]
        have hhas : ∀ W, Calls Tryz.prog 182 #[.string (str s), .int .i64 (a + z), .int .i64 n] W fun e w' => e = .returned (.bool true) ∧ w' = W := fun W => by
          have := has_any s (a + z) n W (by omega) (by omega) (by omega)
          rwa [decide_eq_true (by omega)] at this
        have HH := Lib.hid hhas
        clear hhas
        go_wp2_with fail
        refine wp_region_tail 10 hmix (by kernel_rfl) ?_; simp only [List.take_succ_cons, List.take_zero, List.drop_succ_cons, List.drop_zero]
        iterate 9 still_step
        still_call (HH.out _)
        refine wpStill_nil ?_
        go_wp2_with fail
        have hb3 : (w'.setCell ⟨b, 1, none⟩ (.int .i64 (a + z + n))).heap[b]? = some (.cells #[.string (str s), .int .i64 (a + z + n)] 215 (0, 0)) := by
          have := HBK.out
          simp [World.setCell, Array.getElem?_modify, this]
        have hg3 : w.grownBy (w'.setCell ⟨b, 1, none⟩ (.int .i64 (a + z + n))) (some b) := grown_trans hgr ⟨rfl, rfl, rfl, by simp, fun k _ hk => Below.heap_setCell _ _ _ k (fun e => hk (by rw [e]))⟩
        obtain ⟨W3, hW3⟩ : ∃ W3, (w'.setCell ⟨b, 1, none⟩ (.int .i64 (a + z + n))) = W3 := ⟨_, rfl⟩
        rw [hW3] at hb3 hg3 ⊢
        clear hW3 d0 d1 d2 hgr e0 e1
        have d0 : W3.cell? ⟨b, 0, none⟩ = some (.string (str s)) := blk_cells hb3 0
        have d1 : W3.cell? ⟨b, 0 + 1, none⟩ = some (.int .i64 (a + z + n)) := blk_cells hb3 1
        have HB3 := Lib.hid hb3
        clear hb3
        have hw1 : IntKind.i64.wrap (a + z) = a + z := IntWalk.i64_in _ (by omega)
        have hw5 : (0 : Int) ≤ a + z + n := by omega
        have hw2 : (0 : Int) ≤ a + z := by omega
        have hw3 : a + z ≤ a + z + n := by omega
        have hw4 : a + z + n ≤ s.length := by omega
        refine wp_region_tail 16 hmix (by kernel_rfl) ?_; simp only [List.take_succ_cons, List.take_zero, List.drop_succ_cons, List.drop_zero]
        iterate 16 still_step
        refine wpStill_nil ?_
        clear hw1
        go_wp2_with fail
        go_ret2
        unfold WordsPost
        rw [HRN.out]
        refine ⟨?_, grown_drew (grown_drew hg3), HB3.out⟩
        have e1 : (a + z + n).toNat - (a + z).toNat = n.toNat := by omega
        simp [e1]

theorem glob_lt {w : World} {a0 a1 : Addr} (hG : Glob w a0 a1) : 2 ≠ w.heap.size ∧ 3 ≠ w.heap.size := by
  have h0 := cell_lt hG.e0
  have h1 := cell_lt hG.e1
  dsimp only at h0 h1
  omega

set_option maxRecDepth 10000 in
theorem ReadText_any (s : List UInt8) (a : Int) (a0 a1 : Addr) (w : World) (hs : s.length < 1125899906842624) (ha0 : -9223372036854775808 ≤ a) (ha1 : a ≤ 9223372036854775807) (hG : Glob w a0 a1) :
    Calls Tryz.prog 153 #[.string (str s), .int .i64 a] w fun e w' => e = .returned (readRes (readText s a)) ∧ Below w.heap.size w w' := by
  have hmix : Tryz.prog.follows .mixedOrders = true := by kernel_rfl
  have hB1 : Below w.heap.size w (w.alloc (.cells #[.string (str s), .int .i64 a] 215)) := (Below.refl _ _).alloc (Nat.le_refl _) _
  have hG1 := hG.ext hB1
  have HN := Lib.hid (words_any s a w.heap.size a0 a1 _ hs ha0 ha1 hG1 (blk_new w 215 #[.string (str s), .int .i64 a]) (glob_lt hG))
  have HG := Lib.hid hG
  clear hG hG1
  go_enter Tryz.func153, Tryz.ntmps153
  go_wp2_with fail
  refine HN.out.mono ?_
  intro e w' hp
  unfold WordsPost at hp
  cases hr : rdW s a with
  | error t =>
    rw [hr] at hp
    have hrn : readText s a = none := by simp [readText, hr]
    have HRN := Lib.hid hrn
    clear hr hrn
    cases t
    · obtain ⟨rfl, hgr⟩ := hp
      have hbl' := below_new hgr
      have HW := Lib.hid (wrong_end w' a0 a1 (HG.out.ext hbl'))
      go_wp2_with fail
      refine HW.out.mono ?_
      rintro e w2 ⟨rfl, rfl⟩
      go_wp2_with fail
      go_ret3
      exact ⟨by rw [HRN.out]; rfl, hbl'⟩
    · obtain ⟨rfl, hgr⟩ := hp
      have hbl' := below_new hgr
      have HW := Lib.hid (wrong_form w' a0 a1 (HG.out.ext hbl'))
      go_wp2_with fail
      refine HW.out.mono ?_
      rintro e w2 ⟨rfl, rfl⟩
      go_wp2_with fail
      go_ret3
      exact ⟨by rw [HRN.out]; rfl, hbl'⟩
  | ok p =>
    obtain ⟨t, z⟩ := p
    rw [hr] at hp
    have hrn : readText s a = some (t, z) := by simp [readText, hr]
    have HRN := Lib.hid hrn
    clear hr hrn
    obtain ⟨rfl, hgr, hbk⟩ := hp
    have hbl' := below_new hgr
    have HW := Lib.hid (wrong_nil w' a0 a1 (HG.out.ext hbl'))
    have c1 : w'.cell? ⟨w.heap.size, 0 + 1, none⟩ = some (.int .i64 z) := blk_cells hbk 1
    go_wp2_with fail
    refine HW.out.mono ?_
    rintro e w2 ⟨rfl, rfl⟩
    go_wp2_with fail
    refine wp_region_tail 5 hmix (by kernel_rfl) ?_; simp only [List.take_succ_cons, List.take_zero, List.drop_succ_cons, List.drop_zero]
    iterate 5 still_step
    refine wpStill_nil ?_
    go_wp2_with fail
    go_ret3
    exact ⟨by rw [HRN.out]; rfl, hbl'.drew⟩
end Go.Proofs.YthjphllpkcnehaaGreatDoor
end

section
/- Calls of layer 1 and of the library that are known, as Sh has them. No statement of the program is proved here. -/
namespace Go.Proofs.YthjphllpkcnehaaGreatDoor
open Go Go.RowKit Go.Mor Go.Sh

/-- What is known of the package's variables, at n blocks. -/
structure GlobN (a0 a1 : Addr) (n : Nat) (w : World) : Prop where
  g : Glob w a0 a1
  sz : n ≤ w.heap.size
  h0 : a0.block < n
  h1 : a1.block < n
  hv : 8 ≤ n
def gl (a0 a1 : Addr) (n : Nat) : Sh.Glob where
  G := GlobN a0 a1 n
  n := n
  st := fun w w' h hk => by
    have hv := h.hv
    refine ⟨⟨globU_st h.hv h.g.toGlobU hk, ?_, ?_, h.g.ne, ?_, ?_⟩, size_st h.sz hk, h.h0, h.h1, h.hv⟩
    · rw [World.cell?_of_block (w := w) (hk _ (show 2 < n by omega))]; exact h.g.e0
    · rw [World.cell?_of_block (w := w) (hk _ (show 3 < n by omega))]; exact h.g.e1
    · rw [hk _ h.h0]; exact h.g.b0
    · rw [hk _ h.h1]; exact h.g.b1
  le := fun w h => h.sz
theorem sc_up {a0 a1 : Addr} {m f : Nat} {xs : List TV} {os : List MO} {y : TV} {os' : List MO} (h : SCalls Tryz.prog (gl0 m) f xs os y os') : SCalls Tryz.prog (gl a0 a1 m) f xs os y os' :=
  sc_of (g := gl0 m) (g' := gl a0 a1 m) rfl (fun w (hG : GlobN a0 a1 m w) => (⟨hG.g.toGlobU, hG.sz, hG.hv⟩ : GlobN0 m w)) h
def numTV (r : Option (Int × Int)) : TV := match r with | some (n, b) => .tuple [I n, I b, I 0] | none => .tuple [I 0, I 0, I 10]
def readTV (r : Option (List UInt8 × Int)) : TV := match r with | some (t, b) => .tuple [S (str t), I b, I 0] | none => .tuple [S (str []), I 0, I 10]
def textTV (s : List UInt8) : TV := if s.length ≤ 10000 then .tuple [S (str (text s)), I 0] else .tuple [S (str []), I 10]
/-- What is known of calls of layer 1, and of unicode/utf8. -/
def prim1 : Oracle := fun f xs os =>
  if Nat.beq f 110 then match xs, os with
    | [.pv (.v (.int .i64 x))], [] => if in64 x then some (S (str (num x)), []) else none
    | _, _ => none
  else if Nat.beq f 152 then match xs, os with
    | [.pv (.v (.string s)), .pv (.v (.int .i64 a))], [] => if in64 a && decide ((bl s).length < 1125899906842624) then some (numTV (readNum (bl s) a), []) else none
    | _, _ => none
  else if Nat.beq f 111 then match xs, os with
    | [.pv (.v (.string s))], [] => if decide ((bl s).length ≤ 9223372036854775807) then some (textTV (bl s), []) else none
    | _, _ => none
  else if Nat.beq f 153 then match xs, os with
    | [.pv (.v (.string s)), .pv (.v (.int .i64 a))], [] => if in64 a && decide ((bl s).length < 1125899906842624) then some (readTV (readText (bl s) a), []) else none
    | _, _ => none
  else prim0 f xs os
theorem prim1_sound (a0 a1 : Addr) (n : Nat) : SoundC Tryz.prog (gl a0 a1 n) prim1 := by
  intro f xs os y os' h
  unfold prim1 at h
  split at h
  · rename_i hf
    obtain rfl := Nat.eq_of_beq_eq_true hf
    split at h <;> try (cases h; done)
    rename_i x
    split at h <;> try (cases h; done)
    rename_i hx
    cases h
    obtain ⟨h1, h2⟩ := in64_spec hx
    exact scalls_of (vs := [.int .i64 x]) (body_of (by kernel_rfl)) (fun w E r => .pv (.v _)) (fun w _ => Num_any x h1 h2 w)
  split at h
  · rename_i hf
    obtain rfl := Nat.eq_of_beq_eq_true hf
    split at h <;> try (cases h; done)
    rename_i s a
    split at h <;> try (cases h; done)
    rename_i hx
    cases h
    rw [Bool.and_eq_true] at hx
    obtain ⟨h1, h2⟩ := in64_spec hx.1
    refine scalls_of (vs := [.string s, .int .i64 a]) (v := numRes (readNum (bl s) a)) (body_of (by kernel_rfl)) (fun w E r => ?_) (fun w hG => ?_)
    · generalize readNum (bl s) a = q
      cases q with
      | none => exact relT_vals [_, _, _]
      | some p => exact relT_vals [_, _, _]
    · have := ReadNum_any (bl s) a a0 a1 w (by simpa using hx.2) h1 h2 hG.g
      rw [str_bl] at this; exact this
  split at h
  · rename_i hf
    obtain rfl := Nat.eq_of_beq_eq_true hf
    split at h <;> try (cases h; done)
    rename_i s
    split at h <;> try (cases h; done)
    rename_i hx
    cases h
    refine scalls_of (vs := [.string s]) (v := textRes (bl s)) (body_of (by kernel_rfl)) (fun w E r => ?_) (fun w hG => ?_)
    · unfold textRes textTV
      split <;> exact relT_vals [_, _]
    · have := Text_any (bl s) w (by simpa using hx)
      rw [str_bl] at this; exact this
  split at h
  · rename_i hf
    obtain rfl := Nat.eq_of_beq_eq_true hf
    split at h <;> try (cases h; done)
    rename_i s a
    split at h <;> try (cases h; done)
    rename_i hx
    cases h
    rw [Bool.and_eq_true] at hx
    obtain ⟨h1, h2⟩ := in64_spec hx.1
    refine scalls_of (vs := [.string s, .int .i64 a]) (v := readRes (readText (bl s) a)) (body_of (by kernel_rfl)) (fun w E r => ?_) (fun w hG => ?_)
    · generalize readText (bl s) a = q
      cases q with
      | none => exact relT_vals [_, _, _]
      | some p => exact relT_vals [_, _, _]
    · have := ReadText_any (bl s) a a0 a1 w (by simpa using hx.2) h1 h2 hG.g
      rw [str_bl] at this; exact this
  exact sc_up (prim0_sound n _ _ _ _ _ h)
end Go.Proofs.YthjphllpkcnehaaGreatDoor
end

section
/- All that is known of the package variables. No statement of the program is proved here. -/
namespace Go.Proofs.YthjphllpkcnehaaGreatDoor
open Go Go.RowKit Go.Mor Go.Sh
structure GlobNA (a0 a1 : Addr) (n : Nat) (w : World) : Prop extends GlobN a0 a1 n w where
  t : GlobT w
def glA (a0 a1 : Addr) (n : Nat) : Sh.Glob where
  G := GlobNA a0 a1 n
  n := n
  st := fun w w' h hk => ⟨(gl a0 a1 n).st w w' h.toGlobN hk, globT_st h.hv h.t hk⟩
  le := fun w h => h.sz
theorem sc_1A {a0 a1 : Addr} {m f : Nat} {xs : List TV} {os : List MO} {y : TV} {os' : List MO} (h : SCalls Tryz.prog (gl a0 a1 m) f xs os y os') : SCalls Tryz.prog (glA a0 a1 m) f xs os y os' :=
  sc_of (g := gl a0 a1 m) (g' := glA a0 a1 m) rfl (fun w (hG : GlobNA a0 a1 m w) => hG.toGlobN) h
theorem sc_TA {a0 a1 : Addr} {m f : Nat} {xs : List TV} {os : List MO} {y : TV} {os' : List MO} (h : SCalls Tryz.prog (glT m) f xs os y os') : SCalls Tryz.prog (glA a0 a1 m) f xs os y os' :=
  sc_of (g := glT m) (g' := glA a0 a1 m) rfl (fun w (hG : GlobNA a0 a1 m w) => (⟨⟨hG.g.toGlobU, hG.sz, hG.hv⟩, hG.t⟩ : GlobNT m w)) h
end Go.Proofs.YthjphllpkcnehaaGreatDoor
end

section
/- The listed variables of some cards: what they give, and a world in which they lie so. No statement of the program is proved here. -/
namespace Go.Proofs.YthjphllpkcnehaaGreatDoor
open Go.ChangeShapes Go.WideShapes Go.ChangeAt Go.RowKit Go.Lib Go.Mor Go.Deep
open Go.ChangeMaps (open_string shut_string)
abbrev laidLUTW : List (String × DataW Unit) := [("math/bits.deBruijn32tab", Rows.laid_math_bits_deBruijn32tab), ("math/bits.deBruijn64tab", Rows.laid_math_bits_deBruijn64tab), ("internal/strconv.uint64pow10", Rows.laid_internal_strconv_uint64pow10), ("unicode/utf8.acceptRanges", Rows.laid_unicode_utf8_acceptRanges), ("moraine/wire.errEnd", Rows.laid_moraine_wire_errEnd), ("moraine/wire.errForm", Rows.laid_moraine_wire_errForm), ("unicode/utf8.first", Rows.laid_unicode_utf8_first)]
theorem pow_eq : (Rows.laid_internal_strconv_uint64pow10 : DataW Unit) = Lib.tabData .u64 Lib.pow10Tab := by kernel_rfl
theorem mx_of {W : World} (h : W.ShapedOpen Tryz.prog) : ∃ k, W.cell? ⟨5, 0, none⟩ = some (.int .i64 k) :=
  cell_of_shapedOpen_int (zero := #[.int .i64 0]) (t := 3) h (of_decide_eq_true (by kernel_rfl)) (by kernel_rfl) rfl (by kernel_rfl) (by kernel_rfl) Tryz.underlying3
theorem star : "*" ++ "errors.errorString" = "*errors.errorString" := by decide
theorem rowErr (u : TypeId) (h : Tryz.prog.typeName? 3 u = some "*errors.errorString") : u = 261 :=
  typeName_ptr_named (nm := "errors.errorString") (by rw [star]; kernel_rfl) (by kernel_rfl) (by decide) u (by rw [star]; exact h)
theorem glob_of_laidUTW {W : World} (hL : laidMetH Tryz.prog laidLUTW W) (hsh : W.ShapedOpen Tryz.prog) : ∃ a0 a1, (glA a0 a1 W.heap.size).G W := by
  have hL' : laidMet Tryz.prog laidLUTW W := hL
  have hU := globU_of hL' (.tail _ (.tail _ (.tail _ (.tail _ (.tail _ (.tail _ (.head _))))))) (.tail _ (.tail _ (.tail _ (.head _))))
  have hv := hv_of hsh
  have hT : GlobT W := ⟨Lib.tabIs_of_head pow10_named (t := 237) (by kernel_rfl) Tryz.underlying237 Tryz.underlying212 (by kernel_rfl) (by kernel_rfl) (by have h := hL'.tail.tail; rw [pow_eq] at h; exact h), mx_of hsh⟩
  obtain ⟨a0, a1, s0, s1, c0, c1, t0, t1, hv0, hv1, _, _, _, _, _, _, hne, hb0, hb1⟩ := laid_sentinels2 (g0 := 2) (g1 := 3) (ti := 184) (tp := 261) (te := 283) (ts := 9) hL'.tail.tail.tail.tail (by kernel_rfl) (by kernel_rfl) (by kernel_rfl) (by kernel_rfl)
    Tryz.underlying184 rowErr Tryz.underlying261 Tryz.underlying283 rfl rfl Tryz.underlying9 (by kernel_rfl) (by kernel_rfl)
  have hG : Glob W a0 a1 := by
    refine ⟨hU, ?_, ?_, hne, ⟨c0, t0, hb0⟩, ⟨c1, t1, hb1⟩⟩
    · have := World.var?_cell (g := 2) (by kernel_rfl) hv0 0; simpa using this
    · have := World.var?_cell (g := 3) (by kernel_rfl) hv1 0; simpa using this
  have hN : GlobN a0 a1 W.heap.size W := ⟨hG, Nat.le_refl _, heap_lt hb0, heap_lt hb1, hv⟩
  exact ⟨a0, a1, (⟨hN, hT⟩ : GlobNA a0 a1 W.heap.size W)⟩
theorem laid_metUTW (os : Os) (args : Array Value) : laidMet Tryz.prog laidLUTW ((laidWorld os).forCall (fun _ _ => 0) ⟨#[], args, []⟩).memory :=
  (LaidIn.of_run [6, 7, 4, 1, 2, N0, 3, N0 + 1, 0] 8 (by kernel_rfl) (by kernel_rfl) (by kernel_rfl) (by kernel_rfl)).met
end Go.Proofs.YthjphllpkcnehaaGreatDoor
end

section
/- The code of some functions, as Sh has it (printed by a program). No statement of the program is proved here. -/
namespace Go.Sh.Cd1
open Go Go.Sh
set_option maxRecDepth 100000
-- morainelaw03.awake
abbrev c_morainelaw03_awake_0 : SCode := .reg [([], [⟨(some 0), none, none, .mov (.val (.bool false))⟩])] [0]
abbrev c_morainelaw03_awake_1 : SCode := .reg [([2116, 2117, 2118, 2119, 1], [⟨(some 29), none, none, .call 18 0 [(.val (.string ⟨#[91, 49, 32, 34, 97, 92, 34, 98, 34, 32, 64, 55, 32, 45, 93]⟩)), (.val (.int .i64 0))]⟩, ⟨(some 28), none, none, .mov (.tmp 29)⟩, ⟨(some 30), none, none, .ext (.tmp 28) 0⟩, ⟨(some 31), none, none, .ext (.tmp 28) 1⟩, ⟨(some 32), none, none, .ext (.tmp 28) 2⟩, ⟨(some 1), none, none, .new [(.int .i64 0), (.int .i64 0), (.string ⟨#[]⟩), (.slice none 0 0)]⟩, ⟨none, none, none, .st 4 (.tmp 1) (.tmp 30)⟩, ⟨(some 2), none, none, .mov (.tmp 31)⟩, ⟨(some 3), none, none, .mov (.tmp 32)⟩])] [28, 29, 30, 31, 32]
abbrev c_morainelaw03_awake_2 : SCode := .reg [([2136, 2137, 2138, 2139, 4], [⟨(some 34), none, none, .call 18 0 [(.val (.string ⟨#[120, 45, 53]⟩)), (.val (.int .i64 1))]⟩, ⟨(some 33), none, none, .mov (.tmp 34)⟩, ⟨(some 35), none, none, .ext (.tmp 33) 0⟩, ⟨(some 36), none, none, .ext (.tmp 33) 1⟩, ⟨(some 37), none, none, .ext (.tmp 33) 2⟩, ⟨(some 4), none, none, .new [(.int .i64 0), (.int .i64 0), (.string ⟨#[]⟩), (.slice none 0 0)]⟩, ⟨none, none, none, .st 4 (.tmp 4) (.tmp 35)⟩, ⟨(some 5), none, none, .mov (.tmp 36)⟩, ⟨(some 6), none, none, .mov (.tmp 37)⟩])] [33, 34, 35, 36, 37]
abbrev c_morainelaw03_awake_3 : SCode := .reg [([2156, 2157, 2158, 2159, 7], [⟨(some 39), none, none, .call 18 0 [(.val (.string ⟨#[45, 32, 53]⟩)), (.val (.int .i64 0))]⟩, ⟨(some 38), none, none, .mov (.tmp 39)⟩, ⟨(some 40), none, none, .ext (.tmp 38) 0⟩, ⟨(some 41), none, none, .ext (.tmp 38) 1⟩, ⟨(some 42), none, none, .ext (.tmp 38) 2⟩, ⟨(some 7), none, none, .new [(.int .i64 0), (.int .i64 0), (.string ⟨#[]⟩), (.slice none 0 0)]⟩, ⟨none, none, none, .st 4 (.tmp 7) (.tmp 40)⟩, ⟨(some 8), none, none, .mov (.tmp 41)⟩, ⟨(some 9), none, none, .mov (.tmp 42)⟩])] [7, 38, 39, 40, 41, 42]
abbrev c_morainelaw03_awake_4 : SCode := .reg [([2176, 2177, 2178, 2179, 10], [⟨(some 44), none, none, .call 18 0 [(.val (.string ⟨#[48, 48, 55]⟩)), (.val (.int .i64 0))]⟩, ⟨(some 43), none, none, .mov (.tmp 44)⟩, ⟨(some 45), none, none, .ext (.tmp 43) 0⟩, ⟨(some 46), none, none, .ext (.tmp 43) 1⟩, ⟨(some 47), none, none, .ext (.tmp 43) 2⟩, ⟨(some 10), none, none, .new [(.int .i64 0), (.int .i64 0), (.string ⟨#[]⟩), (.slice none 0 0)]⟩, ⟨none, none, none, .st 4 (.tmp 10) (.tmp 45)⟩, ⟨(some 11), none, none, .mov (.tmp 46)⟩, ⟨(some 12), none, none, .mov (.tmp 47)⟩])] [10, 43, 44, 45, 46, 47]
abbrev c_morainelaw03_awake_5 : SCode := .reg [([2200, 2201, 2202, 2203], [⟨(some 49), none, none, .build [(.int .i64 0), (.int .i64 0), (.string ⟨#[]⟩), (.slice none 0 0)] [(0, 1, (.val (.int .i64 1))), (1, 1, (.val (.int .i64 1)))]⟩, ⟨(some 50), none, none, .call 20 0 [(.tmp 49)]⟩, ⟨(some 48), none, none, .mov (.tmp 50)⟩, ⟨(some 51), none, none, .ext (.tmp 48) 0⟩, ⟨(some 52), none, none, .ext (.tmp 48) 1⟩, ⟨(some 13), none, none, .mov (.tmp 51)⟩, ⟨(some 14), none, none, .mov (.tmp 52)⟩])] [48, 49, 50, 51, 52]
abbrev c_morainelaw03_awake_6 : SCode := .reg [([2216, 2217, 2218, 2219, 15], [⟨(some 54), none, none, .call 21 0 [(.val (.string ⟨#[]⟩)), (.val (.int .i64 0))]⟩, ⟨(some 53), none, none, .mov (.tmp 54)⟩, ⟨(some 55), none, none, .ext (.tmp 53) 0⟩, ⟨(some 56), none, none, .ext (.tmp 53) 1⟩, ⟨(some 57), none, none, .ext (.tmp 53) 2⟩, ⟨(some 15), none, none, .new [(.int .i64 0), (.int .i64 0), (.string ⟨#[]⟩), (.slice none 0 0)]⟩, ⟨none, none, none, .st 4 (.tmp 15) (.tmp 55)⟩, ⟨(some 16), none, none, .mov (.tmp 56)⟩, ⟨(some 17), none, none, .mov (.tmp 57)⟩])] [15, 16, 53, 54, 55, 56, 57]
abbrev c_morainelaw03_awake_7 : SCode := .reg [([2236, 2237, 2238, 2239, 18], [⟨(some 59), none, none, .call 21 0 [(.val (.string ⟨#[12]⟩)), (.val (.int .i64 0))]⟩, ⟨(some 58), none, none, .mov (.tmp 59)⟩, ⟨(some 60), none, none, .ext (.tmp 58) 0⟩, ⟨(some 61), none, none, .ext (.tmp 58) 1⟩, ⟨(some 62), none, none, .ext (.tmp 58) 2⟩, ⟨(some 18), none, none, .new [(.int .i64 0), (.int .i64 0), (.string ⟨#[]⟩), (.slice none 0 0)]⟩, ⟨none, none, none, .st 4 (.tmp 18) (.tmp 60)⟩, ⟨(some 19), none, none, .mov (.tmp 61)⟩, ⟨(some 20), none, none, .mov (.tmp 62)⟩])] [18, 19, 58, 59, 60, 61, 62]
abbrev c_morainelaw03_awake_8 : SCode := .reg [([2256, 2257, 2258, 2259, 21], [⟨(some 64), none, none, .call 18 0 [(.val (.string ⟨#[120]⟩)), (.val (.int .i64 0))]⟩, ⟨(some 63), none, none, .mov (.tmp 64)⟩, ⟨(some 65), none, none, .ext (.tmp 63) 0⟩, ⟨(some 66), none, none, .ext (.tmp 63) 1⟩, ⟨(some 67), none, none, .ext (.tmp 63) 2⟩, ⟨(some 21), none, none, .new [(.int .i64 0), (.int .i64 0), (.string ⟨#[]⟩), (.slice none 0 0)]⟩, ⟨none, none, none, .st 4 (.tmp 21) (.tmp 65)⟩, ⟨(some 22), none, none, .mov (.tmp 66)⟩, ⟨(some 23), none, none, .mov (.tmp 67)⟩])] [21, 63, 64, 65, 66, 67]
abbrev c_morainelaw03_awake_9 : SCode := .reg [([2276, 2277, 2278, 2279, 24], [⟨(some 69), none, none, .call 21 0 [(.val (.string ⟨#[]⟩)), (.val (.int .i64 1))]⟩, ⟨(some 68), none, none, .mov (.tmp 69)⟩, ⟨(some 70), none, none, .ext (.tmp 68) 0⟩, ⟨(some 71), none, none, .ext (.tmp 68) 1⟩, ⟨(some 72), none, none, .ext (.tmp 68) 2⟩, ⟨(some 24), none, none, .new [(.int .i64 0), (.int .i64 0), (.string ⟨#[]⟩), (.slice none 0 0)]⟩, ⟨none, none, none, .st 4 (.tmp 24) (.tmp 70)⟩, ⟨(some 25), none, none, .mov (.tmp 71)⟩, ⟨(some 26), none, none, .mov (.tmp 72)⟩])] [24, 25, 68, 69, 70, 71, 72]
abbrev c_morainelaw03_awake_10 : SCode := .reg [([27], [⟨(some 73), none, none, .build [(.int .i64 0), (.int .i64 0), (.string ⟨#[]⟩), (.slice none 0 0)] [(0, 1, (.val (.int .i64 1))), (1, 1, (.val (.int .i64 1)))]⟩, ⟨(some 74), none, none, .build [(.int .i64 0), (.int .i64 0), (.string ⟨#[]⟩), (.slice none 0 0)] [(0, 1, (.val (.int .i64 2))), (2, 1, (.val (.string ⟨#[97, 34, 98]⟩)))]⟩, ⟨(some 75), none, none, .build [(.int .i64 0), (.int .i64 0), (.string ⟨#[]⟩), (.slice none 0 0)] [(0, 1, (.val (.int .i64 3))), (1, 1, (.val (.int .i64 7)))]⟩, ⟨(some 76), none, none, .build [(.int .i64 0), (.int .i64 0), (.string ⟨#[]⟩), (.slice none 0 0)] []⟩, ⟨(some 77), none, none, .bsl 4 [(.tmp 73), (.tmp 74), (.tmp 75), (.tmp 76)]⟩, ⟨(some 78), none, none, .build [(.int .i64 0), (.int .i64 0), (.string ⟨#[]⟩), (.slice none 0 0)] [(0, 1, (.val (.int .i64 5))), (3, 1, (.tmp 77))]⟩, ⟨(some 27), none, none, .new [(.int .i64 0), (.int .i64 0), (.string ⟨#[]⟩), (.slice none 0 0)]⟩, ⟨none, none, none, .st 4 (.tmp 27) (.tmp 78)⟩])] [73, 74, 75, 76, 77, 78]
abbrev c_morainelaw03_awake_11 : SCode := .reg [([2352, 2353, 2354, 2355, 2404, 2405, 2406, 2407, 2596, 2597, 2598, 2599, 2612, 2613, 2614, 2615, 2636, 2637, 2638, 2639, 2656, 2657, 2658, 2659], [⟨(some 79), none, none, .mov (.tmp 3)⟩, ⟨(some 80), none, none, .bin .eql 28 (.tmp 79) (.val (.int .i64 0))⟩, ⟨(some 81), none, none, .mov (.tmp 80)⟩, ⟨(some 82), (some (81, true)), none, .mov (.tmp 2)⟩, ⟨(some 83), (some (81, true)), none, .bin .eql 3 (.tmp 82) (.val (.int .i64 15))⟩, ⟨(some 84), none, none, .pick (.tmp 81) (.tmp 83) (.val (.bool false))⟩, ⟨(some 85), none, none, .mov (.tmp 84)⟩, ⟨(some 86), (some (85, true)), none, .ld true 4 (.tmp 1)⟩, ⟨(some 87), (some (85, true)), none, .ld true 4 (.tmp 27)⟩, ⟨(some 88), (some (85, true)), none, .call 19 0 [(.tmp 86), (.tmp 87)]⟩, ⟨(some 89), none, none, .pick (.tmp 85) (.tmp 88) (.val (.bool false))⟩, ⟨(some 90), none, none, .mov (.tmp 89)⟩, ⟨(some 91), (some (90, true)), none, .mov (.tmp 6)⟩, ⟨(some 92), (some (90, true)), none, .bin .eql 28 (.tmp 91) (.val (.int .i64 0))⟩, ⟨(some 93), none, none, .pick (.tmp 90) (.tmp 92) (.val (.bool false))⟩, ⟨(some 94), none, none, .mov (.tmp 93)⟩, ⟨(some 95), (some (94, true)), none, .mov (.tmp 5)⟩, ⟨(some 96), (some (94, true)), none, .bin .eql 3 (.tmp 95) (.val (.int .i64 3))⟩, ⟨(some 97), none, none, .pick (.tmp 94) (.tmp 96) (.val (.bool false))⟩, ⟨(some 98), none, none, .mov (.tmp 97)⟩, ⟨(some 99), (some (98, true)), none, .ld true 4 (.tmp 4)⟩, ⟨(some 100), (some (98, true)), none, .build [(.int .i64 0), (.int .i64 0), (.string ⟨#[]⟩), (.slice none 0 0)] [(0, 1, (.val (.int .i64 1))), (1, 1, (.val (.int .i64 (-5))))]⟩, ⟨(some 101), (some (98, true)), none, .call 19 0 [(.tmp 99), (.tmp 100)]⟩, ⟨(some 102), none, none, .pick (.tmp 98) (.tmp 101) (.val (.bool false))⟩, ⟨(some 103), none, none, .mov (.tmp 102)⟩, ⟨(some 104), (some (103, true)), none, .mov (.tmp 9)⟩, ⟨(some 105), (some (103, true)), none, .bin .eql 28 (.tmp 104) (.val (.int .i64 0))⟩, ⟨(some 106), none, none, .pick (.tmp 103) (.tmp 105) (.val (.bool false))⟩, ⟨(some 107), none, none, .mov (.tmp 106)⟩, ⟨(some 108), (some (107, true)), none, .mov (.tmp 8)⟩, ⟨(some 109), (some (107, true)), none, .bin .eql 3 (.tmp 108) (.val (.int .i64 1))⟩, ⟨(some 110), none, none, .pick (.tmp 107) (.tmp 109) (.val (.bool false))⟩, ⟨(some 111), none, none, .mov (.tmp 110)⟩, ⟨(some 112), (some (111, true)), none, .mov (.tmp 12)⟩, ⟨(some 113), (some (111, true)), none, .bin .eql 28 (.tmp 112) (.val (.int .i64 0))⟩, ⟨(some 114), none, none, .pick (.tmp 111) (.tmp 113) (.val (.bool false))⟩, ⟨(some 115), none, none, .mov (.tmp 114)⟩, ⟨(some 116), (some (115, true)), none, .mov (.tmp 11)⟩, ⟨(some 117), (some (115, true)), none, .bin .eql 3 (.tmp 116) (.val (.int .i64 1))⟩, ⟨(some 118), none, none, .pick (.tmp 115) (.tmp 117) (.val (.bool false))⟩, ⟨(some 119), none, none, .mov (.tmp 118)⟩, ⟨(some 120), (some (119, true)), none, .mov (.tmp 14)⟩, ⟨(some 121), (some (119, true)), none, .bin .eql 28 (.tmp 120) (.val (.int .i64 0))⟩, ⟨(some 122), none, none, .pick (.tmp 119) (.tmp 121) (.val (.bool false))⟩, ⟨(some 123), none, none, .mov (.tmp 122)⟩, ⟨(some 124), (some (123, true)), none, .mov (.tmp 13)⟩, ⟨(some 125), (some (123, true)), none, .bin .eql 9 (.tmp 124) (.val (.string ⟨#[2, 2]⟩))⟩, ⟨(some 126), none, none, .pick (.tmp 123) (.tmp 125) (.val (.bool false))⟩, ⟨(some 127), none, none, .mov (.tmp 126)⟩, ⟨(some 128), (some (127, true)), none, .mov (.tmp 17)⟩, ⟨(some 129), (some (127, true)), none, .bin .eql 28 (.tmp 128) (.val (.int .i64 10))⟩, ⟨(some 130), none, none, .pick (.tmp 127) (.tmp 129) (.val (.bool false))⟩, ⟨(some 131), none, none, .mov (.tmp 130)⟩, ⟨(some 132), (some (131, true)), none, .mov (.tmp 20)⟩, ⟨(some 133), (some (131, true)), none, .bin .eql 28 (.tmp 132) (.val (.int .i64 30))⟩, ⟨(some 134), none, none, .pick (.tmp 131) (.tmp 133) (.val (.bool false))⟩, ⟨(some 135), none, none, .mov (.tmp 134)⟩, ⟨(some 136), (some (135, true)), none, .mov (.tmp 22)⟩, ⟨(some 137), (some (135, true)), none, .bin .eql 3 (.tmp 136) (.val (.int .i64 0))⟩, ⟨(some 138), none, none, .pick (.tmp 135) (.tmp 137) (.val (.bool false))⟩, ⟨(some 139), none, none, .mov (.tmp 138)⟩, ⟨(some 140), (some (139, true)), none, .mov (.tmp 23)⟩, ⟨(some 141), (some (139, true)), none, .bin .eql 28 (.tmp 140) (.val (.int .i64 30))⟩, ⟨(some 142), none, none, .pick (.tmp 139) (.tmp 141) (.val (.bool false))⟩, ⟨(some 143), none, none, .mov (.tmp 142)⟩, ⟨(some 144), (some (143, true)), none, .mov (.tmp 26)⟩, ⟨(some 145), (some (143, true)), none, .bin .eql 28 (.tmp 144) (.val (.int .i64 2))⟩, ⟨(some 146), none, none, .pick (.tmp 143) (.tmp 145) (.val (.bool false))⟩, ⟨(some 147), none, none, .mov (.tmp 146)⟩, ⟨(some 148), (some (147, true)), none, .ld true 4 (.tmp 27)⟩, ⟨(some 149), (some (147, true)), none, .call 28 0 [(.tmp 148)]⟩, ⟨(some 150), none, none, .pick (.tmp 147) (.tmp 149) (.val (.bool false))⟩, ⟨(some 151), none, none, .mov (.tmp 150)⟩, ⟨(some 152), (some (151, true)), none, .build [(.int .i64 0), (.int .i64 0), (.string ⟨#[]⟩), (.slice none 0 0)] [(1, 1, (.val (.int .i64 1)))]⟩, ⟨(some 153), (some (151, true)), none, .call 28 0 [(.tmp 152)]⟩, ⟨(some 154), (some (151, true)), none, .un .not (.tmp 153)⟩, ⟨(some 155), none, none, .pick (.tmp 151) (.tmp 154) (.val (.bool false))⟩, ⟨(some 156), none, none, .mov (.tmp 155)⟩, ⟨(some 157), (some (156, true)), none, .ld true 4 (.tmp 27)⟩, ⟨(some 158), (some (156, true)), none, .ld true 4 (.tmp 1)⟩, ⟨(some 159), (some (156, true)), none, .call 34 0 [(.tmp 157), (.tmp 158)]⟩, ⟨(some 160), none, none, .pick (.tmp 156) (.tmp 159) (.val (.bool false))⟩, ⟨(some 161), none, none, .mov (.tmp 160)⟩, ⟨(some 162), (some (161, true)), none, .ld true 4 (.tmp 27)⟩, ⟨(some 163), (some (161, true)), none, .ld true 4 (.tmp 4)⟩, ⟨(some 164), (some (161, true)), none, .call 34 0 [(.tmp 162), (.tmp 163)]⟩, ⟨(some 165), (some (161, true)), none, .un .not (.tmp 164)⟩, ⟨(some 166), none, none, .pick (.tmp 161) (.tmp 165) (.val (.bool false))⟩, ⟨(some 0), none, none, .mov (.tmp 166)⟩])] [1, 2, 3, 4, 5, 6, 8, 9, 11, 12, 13, 14, 17, 20, 22, 23, 26, 27, 79, 80, 81, 82, 83, 84, 85, 86, 87, 88, 89, 90, 91, 92, 93, 94, 95, 96, 97, 98, 99, 100, 101, 102, 103, 104, 105, 106, 107, 108, 109, 110, 111, 112, 113, 114, 115, 116, 117, 118, 119, 120, 121, 122, 123, 124, 125, 126, 127, 128, 129, 130, 131, 132, 133, 134, 135, 136, 137, 138, 139, 140, 141, 142, 143, 144, 145, 146, 147, 148, 149, 150, 151, 152, 153, 154, 155, 156, 157, 158, 159, 160, 161, 162, 163, 164, 165, 166]
abbrev F_morainelaw03_awake : SFunc := ⟨167, (.seq c_morainelaw03_awake_0 (.seq c_morainelaw03_awake_1 (.seq c_morainelaw03_awake_2 (.seq c_morainelaw03_awake_3 (.seq c_morainelaw03_awake_4 (.seq c_morainelaw03_awake_5 (.seq c_morainelaw03_awake_6 (.seq c_morainelaw03_awake_7 (.seq c_morainelaw03_awake_8 (.seq c_morainelaw03_awake_9 (.seq c_morainelaw03_awake_10 (.seq c_morainelaw03_awake_11 .ret)))))))))))), [.tmp 0], false⟩
theorem tf_morainelaw03_awake : transFunc Go.Proofs.Tryz.prog 15 (hintT [(29, 0), (34, 0), (39, 0), (44, 0), (50, 0), (54, 0), (59, 0), (64, 0), (69, 0), (77, 0), (88, 0), (101, 0), (149, 0), (153, 0), (159, 0), (164, 0)]) (fpT []) (killT [(0, [0]), (1, [28, 29, 30, 31, 32]), (2, [33, 34, 35, 36, 37]), (3, [7, 38, 39, 40, 41, 42]), (4, [10, 43, 44, 45, 46, 47]), (5, [48, 49, 50, 51, 52]), (6, [15, 16, 53, 54, 55, 56, 57]), (7, [18, 19, 58, 59, 60, 61, 62]), (8, [21, 63, 64, 65, 66, 67]), (9, [24, 25, 68, 69, 70, 71, 72]), (10, [73, 74, 75, 76, 77, 78]), (11, [1, 2, 3, 4, 5, 6, 8, 9, 11, 12, 13, 14, 17, 20, 22, 23, 26, 27, 79, 80, 81, 82, 83, 84, 85, 86, 87, 88, 89, 90, 91, 92, 93, 94, 95, 96, 97, 98, 99, 100, 101, 102, 103, 104, 105, 106, 107, 108, 109, 110, 111, 112, 113, 114, 115, 116, 117, 118, 119, 120, 121, 122, 123, 124, 125, 126, 127, 128, 129, 130, 131, 132, 133, 134, 135, 136, 137, 138, 139, 140, 141, 142, 143, 144, 145, 146, 147, 148, 149, 150, 151, 152, 153, 154, 155, 156, 157, 158, 159, 160, 161, 162, 163, 164, 165, 166])]) false = some F_morainelaw03_awake := by kernel_rfl
-- morainelaw03.ValOf
abbrev c_morainelaw03_ValOf_0 : SCode := .reg [([1, 2], [⟨(some 1), none, none, .box (.tmp 0)⟩, ⟨(some 2), none, none, .new [(.int .i64 0), (.int .i64 0), (.string ⟨#[]⟩), (.slice none 0 0)]⟩])] [0]
abbrev c_morainelaw03_ValOf_1 : SCode := .reg [([2036, 2037, 2038, 2039], [⟨(some 7), none, none, .fldA 0 (.tmp 1)⟩, ⟨(some 8), none, none, .ld false 1 (.tmp 7)⟩, ⟨(some 9), none, none, .call 52 0 [(.tmp 8), (.val (.int .i64 7))]⟩, ⟨(some 3), none, none, .mov (.tmp 9)⟩])] [7, 8, 9]
abbrev c_morainelaw03_ValOf_2 : SCode := .reg [([], [⟨(some 10), none, none, .mov (.tmp 3)⟩, ⟨(some 11), none, none, .bin .lss 3 (.tmp 10) (.val (.int .i64 5))⟩])] [10]
abbrev c_morainelaw03_ValOf_3 : SCode := .reg [([2072, 2073, 2074, 2075, 4], [⟨(some 12), none, none, .mov (.tmp 3)⟩, ⟨(some 13), none, none, .fldA 1 (.tmp 1)⟩, ⟨(some 14), none, none, .ld false 1 (.tmp 13)⟩, ⟨(some 15), none, none, .fldA 2 (.tmp 1)⟩, ⟨(some 16), none, none, .ld false 1 (.tmp 15)⟩, ⟨(some 17), none, none, .build [(.int .i64 0), (.int .i64 0), (.string ⟨#[]⟩)] [(1, 1, (.tmp 14)), (2, 1, (.tmp 16))]⟩, ⟨(some 18), none, none, .call 53 0 [(.tmp 12), (.tmp 17)]⟩, ⟨(some 4), none, none, .new [(.int .i64 0), (.int .i64 0), (.string ⟨#[]⟩), (.slice none 0 0)]⟩, ⟨none, none, none, .st 4 (.tmp 4) (.tmp 18)⟩])] [3, 11, 12, 13, 14, 15, 16, 17, 18]
abbrev c_morainelaw03_ValOf_4 : SCode := .reg [([2104, 2105, 2106, 2107], [⟨(some 19), none, none, .fldA 0 (.tmp 4)⟩, ⟨(some 20), none, none, .ld false 1 (.tmp 19)⟩, ⟨(some 21), none, none, .bin .geq 3 (.tmp 20) (.val (.int .i64 3))⟩, ⟨(some 22), none, none, .mov (.tmp 21)⟩, ⟨(some 23), (some (22, true)), none, .fldA 0 (.tmp 1)⟩, ⟨(some 24), (some (22, true)), none, .ld false 1 (.tmp 23)⟩, ⟨(some 25), (some (22, true)), none, .bin .quo 3 (.tmp 24) (.val (.int .i64 7))⟩, ⟨(some 26), (some (22, true)), none, .call 52 0 [(.tmp 25), (.val (.int .i64 4))]⟩, ⟨(some 27), (some (22, true)), none, .bin .eql 3 (.tmp 26) (.val (.int .i64 0))⟩, ⟨(some 28), none, none, .pick (.tmp 22) (.tmp 27) (.val (.bool false))⟩])] [19, 20, 21, 22, 23, 24, 25, 26, 27]
abbrev c_morainelaw03_ValOf_5 : SCode := .reg [([2124, 2125, 2126, 2127], [⟨(some 29), none, none, .fldA 1 (.tmp 1)⟩, ⟨(some 30), none, none, .ld false 1 (.tmp 29)⟩, ⟨(some 31), none, none, .call 52 0 [(.tmp 30), (.val (.int .i64 20))]⟩, ⟨(some 32), none, none, .bin .sub 3 (.val (.int .i64 (-1))) (.tmp 31)⟩, ⟨(some 33), none, none, .fldA 1 (.tmp 4)⟩, ⟨none, none, none, .st 1 (.tmp 33) (.tmp 32)⟩])] [1, 28, 29, 30, 31, 32, 33]
abbrev c_morainelaw03_ValOf_6 : SCode := .reg [([], [⟨(some 34), none, none, .ld true 4 (.tmp 4)⟩, ⟨none, none, none, .st 4 (.tmp 2) (.tmp 34)⟩])] [1, 4, 28, 34]
abbrev c_morainelaw03_ValOf_7 : SCode := .reg [([5], [⟨(some 35), none, none, .build [(.int .i64 0), (.int .i64 0), (.string ⟨#[]⟩), (.slice none 0 0)] [(0, 1, (.val (.int .i64 5)))]⟩, ⟨(some 5), none, none, .new [(.int .i64 0), (.int .i64 0), (.string ⟨#[]⟩), (.slice none 0 0)]⟩, ⟨none, none, none, .st 4 (.tmp 5) (.tmp 35)⟩])] [3, 11, 35]
abbrev c_morainelaw03_ValOf_8 : SCode := .reg [([], [⟨(some 6), none, none, .mov (.val (.int .i64 0))⟩])] []
abbrev c_morainelaw03_ValOf_9 : SCode := .reg [([], [⟨(some 36), none, none, .mov (.tmp 6)⟩, ⟨(some 37), none, none, .fldA 3 (.tmp 1)⟩, ⟨(some 38), none, none, .ld false 1 (.tmp 37)⟩, ⟨(some 39), none, none, .len (.tmp 38)⟩, ⟨(some 40), none, none, .bin .lss 3 (.tmp 36) (.tmp 39)⟩, ⟨(some 41), none, none, .mov (.tmp 40)⟩, ⟨(some 42), (some (41, true)), none, .mov (.tmp 6)⟩, ⟨(some 43), (some (41, true)), none, .bin .lss 3 (.tmp 42) (.val (.int .i64 12))⟩, ⟨(some 44), none, none, .pick (.tmp 41) (.tmp 43) (.val (.bool false))⟩])] [36, 37, 38, 39, 40, 41, 42, 43]
abbrev c_morainelaw03_ValOf_10 : SCode := .reg [([2220, 2221, 2222, 2223, 2244, 2245, 2246, 2247], [⟨(some 47), none, none, .fldA 3 (.tmp 5)⟩, ⟨(some 48), none, none, .ld false 1 (.tmp 47)⟩, ⟨(some 49), none, none, .fldA 3 (.tmp 1)⟩, ⟨(some 50), none, none, .ld false 1 (.tmp 49)⟩, ⟨(some 51), none, none, .mov (.tmp 6)⟩, ⟨(some 52), none, none, .idxA 3 (.tmp 50) (.tmp 51)⟩, ⟨(some 53), none, none, .fldA 0 (.tmp 52)⟩, ⟨(some 54), none, none, .ld false 1 (.tmp 53)⟩, ⟨(some 55), none, none, .call 52 0 [(.tmp 54), (.val (.int .i64 5))]⟩, ⟨(some 56), none, none, .fldA 3 (.tmp 1)⟩, ⟨(some 57), none, none, .ld false 1 (.tmp 56)⟩, ⟨(some 58), none, none, .mov (.tmp 6)⟩, ⟨(some 59), none, none, .idxA 3 (.tmp 57) (.tmp 58)⟩, ⟨(some 60), none, none, .ld true 3 (.tmp 59)⟩, ⟨(some 61), none, none, .call 53 0 [(.tmp 55), (.tmp 60)]⟩, ⟨(some 62), none, none, .bsl 4 [(.tmp 61)]⟩, ⟨(some 63), none, none, .app 42 4 56 (.tmp 48) (.tmp 62)⟩, ⟨(some 64), none, none, .fldA 3 (.tmp 5)⟩, ⟨none, none, none, .st 1 (.tmp 64) (.tmp 63)⟩]), ([2220, 2221, 2222, 2223, 2244, 2245, 2246, 2247, 63], [⟨(some 47), none, none, .fldA 3 (.tmp 5)⟩, ⟨(some 48), none, none, .ld false 1 (.tmp 47)⟩, ⟨(some 49), none, none, .fldA 3 (.tmp 1)⟩, ⟨(some 50), none, none, .ld false 1 (.tmp 49)⟩, ⟨(some 51), none, none, .mov (.tmp 6)⟩, ⟨(some 52), none, none, .idxA 3 (.tmp 50) (.tmp 51)⟩, ⟨(some 53), none, none, .fldA 0 (.tmp 52)⟩, ⟨(some 54), none, none, .ld false 1 (.tmp 53)⟩, ⟨(some 55), none, none, .call 52 0 [(.tmp 54), (.val (.int .i64 5))]⟩, ⟨(some 56), none, none, .fldA 3 (.tmp 1)⟩, ⟨(some 57), none, none, .ld false 1 (.tmp 56)⟩, ⟨(some 58), none, none, .mov (.tmp 6)⟩, ⟨(some 59), none, none, .idxA 3 (.tmp 57) (.tmp 58)⟩, ⟨(some 60), none, none, .ld true 3 (.tmp 59)⟩, ⟨(some 61), none, none, .call 53 0 [(.tmp 55), (.tmp 60)]⟩, ⟨(some 62), none, none, .bsl 4 [(.tmp 61)]⟩, ⟨(some 63), none, none, .appN 42 4 56 (.tmp 48) (.tmp 62)⟩, ⟨(some 64), none, none, .fldA 3 (.tmp 5)⟩, ⟨none, none, none, .st 1 (.tmp 64) (.tmp 63)⟩])] [44, 47, 48, 49, 50, 51, 52, 53, 54, 55, 56, 57, 58, 59, 60, 61, 62, 63, 64]
abbrev c_morainelaw03_ValOf_11 : SCode := .reg [([], [⟨(some 45), none, none, .mov (.tmp 6)⟩, ⟨(some 46), none, none, .bin .add 3 (.tmp 45) (.val (.int .i64 1))⟩, ⟨(some 6), none, none, .mov (.tmp 46)⟩])] [45, 46]
abbrev c_morainelaw03_ValOf_12 : SCode := (.seq (.seq c_morainelaw03_ValOf_9 (.cond (.tmp 44) .skip (.exit 0))) (.seq (.block 1 c_morainelaw03_ValOf_10) c_morainelaw03_ValOf_11))
abbrev c_morainelaw03_ValOf_13 : SCode := .reg [([], [⟨(some 65), none, none, .ld true 4 (.tmp 5)⟩, ⟨none, none, none, .st 4 (.tmp 2) (.tmp 65)⟩])] [1, 5, 6, 65]
abbrev F_morainelaw03_ValOf : SFunc := ⟨66, (.seq c_morainelaw03_ValOf_0 (.seq c_morainelaw03_ValOf_1 (.seq (.seq c_morainelaw03_ValOf_2 (.cond (.tmp 11) (.seq c_morainelaw03_ValOf_3 (.seq (.seq c_morainelaw03_ValOf_4 (.cond (.tmp 28) c_morainelaw03_ValOf_5 .skip)) (.seq c_morainelaw03_ValOf_6 .ret))) .skip)) (.seq c_morainelaw03_ValOf_7 (.seq (.seq c_morainelaw03_ValOf_8 (.block 0 (.loop c_morainelaw03_ValOf_12))) (.seq c_morainelaw03_ValOf_13 .ret)))))), [.cell true 4 2], false⟩
theorem tf_morainelaw03_ValOf : transFunc Go.Proofs.Tryz.prog 16 (hintT [(9, 0), (18, 0), (26, 0), (31, 0), (55, 0), (61, 0), (62, 0)]) (fpT []) (killT [(0, [0]), (1, [7, 8, 9]), (2, [10]), (3, [3, 11, 12, 13, 14, 15, 16, 17, 18]), (4, [19, 20, 21, 22, 23, 24, 25, 26, 27]), (5, [1, 28, 29, 30, 31, 32, 33]), (6, [1, 4, 28, 34]), (7, [3, 11, 35]), (9, [36, 37, 38, 39, 40, 41, 42, 43]), (11, [44, 47, 48, 49, 50, 51, 52, 53, 54, 55, 56, 57, 58, 59, 60, 61, 62, 63, 64]), (10, [45, 46]), (12, [1, 5, 6, 65])]) false = some F_morainelaw03_ValOf := by kernel_rfl
-- val.Read
abbrev c_val_Read_0 : SCode := .reg [([4], [⟨(some 4), none, none, .new [(.int .i64 0), (.int .i64 0), (.string ⟨#[]⟩), (.slice none 0 0)]⟩, ⟨(some 5), none, none, .mov (.val (.int .i64 0))⟩, ⟨(some 6), none, none, .mov (.val (.int .i64 0))⟩])] [5, 6]
abbrev c_val_Read_1 : SCode := .reg [([], [⟨(some 11), none, none, .mov (.tmp 1)⟩, ⟨(some 12), none, none, .bin .lss 3 (.tmp 11) (.val (.int .i64 0))⟩, ⟨(some 13), none, none, .mov (.tmp 12)⟩, ⟨(some 14), (some (13, false)), none, .mov (.tmp 1)⟩, ⟨(some 15), (some (13, false)), none, .mov (.tmp 0)⟩, ⟨(some 16), (some (13, false)), none, .slen (.tmp 15)⟩, ⟨(some 17), (some (13, false)), none, .bin .gtr 3 (.tmp 14) (.tmp 16)⟩, ⟨(some 18), none, none, .pick (.tmp 13) (.val (.bool true)) (.tmp 17)⟩])] [11, 12, 13, 14, 15, 16, 17]
abbrev c_val_Read_2 : SCode := .reg [([], [⟨(some 19), none, none, .build [(.int .i64 0), (.int .i64 0), (.string ⟨#[]⟩), (.slice none 0 0)] []⟩, ⟨(some 20), none, none, .mov (.tmp 1)⟩, ⟨none, none, none, .st 4 (.tmp 4) (.tmp 19)⟩, ⟨(some 5), none, none, .mov (.tmp 20)⟩, ⟨(some 6), none, none, .mov (.val (.int .i64 2))⟩])] [0, 1, 18, 19, 20]
abbrev c_val_Read_3 : SCode := .reg [([2092, 2093, 2094, 2095], [⟨(some 21), none, none, .mov (.tmp 0)⟩, ⟨(some 22), none, none, .mov (.tmp 1)⟩, ⟨(some 23), none, none, .call 55 0 [(.tmp 21), (.tmp 22)]⟩, ⟨(some 7), none, none, .mov (.tmp 23)⟩])] [0, 5, 6, 18, 21, 22, 23]
abbrev c_val_Read_4 : SCode := .reg [([2104, 2105, 2106, 2107, 8], [⟨(some 25), none, none, .mov (.tmp 7)⟩, ⟨(some 26), none, none, .callv (.tmp 25) 1 [(.val (.func (.func 56) #[] #[]))]⟩, ⟨(some 24), none, none, .mov (.tmp 26)⟩, ⟨(some 27), none, none, .ext (.tmp 24) 0⟩, ⟨(some 28), none, none, .ext (.tmp 24) 1⟩, ⟨(some 29), none, none, .ext (.tmp 24) 2⟩, ⟨(some 8), none, none, .new [(.int .i64 0), (.int .i64 0), (.string ⟨#[]⟩), (.slice none 0 0)]⟩, ⟨none, none, none, .st 4 (.tmp 8) (.tmp 27)⟩, ⟨(some 9), none, none, .mov (.tmp 28)⟩, ⟨(some 10), none, none, .mov (.tmp 29)⟩])] [24, 25, 26, 27, 28, 29]
abbrev c_val_Read_5 : SCode := .reg [([], [⟨(some 30), none, none, .mov (.tmp 10)⟩, ⟨(some 31), none, none, .mov (.tmp 30)⟩, ⟨(some 32), (some (31, true)), none, .fldA 0 (.tmp 8)⟩, ⟨(some 33), (some (31, true)), none, .ld false 1 (.tmp 32)⟩, ⟨(some 34), (some (31, true)), none, .bin .eql 3 (.tmp 33) (.val (.int .i64 5))⟩, ⟨(some 35), none, none, .pick (.tmp 31) (.tmp 34) (.val (.bool false))⟩])] [30, 31, 32, 33, 34]
abbrev c_val_Read_6 : SCode := .reg [([2152, 2153, 2154, 2155], [⟨(some 37), none, none, .mov (.tmp 7)⟩, ⟨(some 38), none, none, .call 57 1 [(.tmp 37)]⟩, ⟨(some 36), none, none, .mov (.tmp 38)⟩, ⟨(some 39), none, none, .ext (.tmp 36) 0⟩, ⟨(some 40), none, none, .ext (.tmp 36) 1⟩, ⟨(some 41), none, none, .ext (.tmp 36) 2⟩, ⟨(some 42), none, none, .fldA 3 (.tmp 8)⟩, ⟨none, none, none, .st 1 (.tmp 42) (.tmp 39)⟩, ⟨(some 9), none, none, .mov (.tmp 40)⟩, ⟨(some 10), none, none, .mov (.tmp 41)⟩])] [7, 35, 36, 37, 38, 39, 40, 41, 42]
abbrev c_val_Read_7 : SCode := .reg [([], [⟨(some 43), none, none, .mov (.tmp 10)⟩, ⟨(some 44), none, none, .un .not (.tmp 43)⟩])] [7, 10, 35, 43]
abbrev c_val_Read_8 : SCode := .reg [([], [⟨(some 45), none, none, .build [(.int .i64 0), (.int .i64 0), (.string ⟨#[]⟩), (.slice none 0 0)] []⟩, ⟨(some 46), none, none, .mov (.tmp 1)⟩, ⟨none, none, none, .st 4 (.tmp 4) (.tmp 45)⟩, ⟨(some 5), none, none, .mov (.tmp 46)⟩, ⟨(some 6), none, none, .mov (.val (.int .i64 30))⟩])] [1, 8, 9, 44, 45, 46]
abbrev c_val_Read_9 : SCode := .reg [([], [⟨(some 47), none, none, .ld true 4 (.tmp 8)⟩, ⟨(some 48), none, none, .mov (.tmp 9)⟩, ⟨none, none, none, .st 4 (.tmp 4) (.tmp 47)⟩, ⟨(some 5), none, none, .mov (.tmp 48)⟩, ⟨(some 6), none, none, .mov (.val (.int .i64 0))⟩])] [1, 8, 9, 44, 47, 48]
abbrev F_val_Read : SFunc := ⟨49, (.seq c_val_Read_0 (.seq (.seq c_val_Read_1 (.cond (.tmp 18) (.seq c_val_Read_2 .ret) .skip)) (.seq c_val_Read_3 (.seq c_val_Read_4 (.seq (.seq c_val_Read_5 (.cond (.tmp 35) c_val_Read_6 .skip)) (.seq (.seq c_val_Read_7 (.cond (.tmp 44) (.seq c_val_Read_8 .ret) .skip)) (.seq c_val_Read_9 .ret))))))), [.cell true 4 4, .tmp 5, .tmp 6], false⟩
theorem tf_val_Read : transFunc Go.Proofs.Tryz.prog 18 (hintT [(23, 0), (26, 1), (38, 1)]) (fpT []) (killT [(0, [5, 6]), (1, [11, 12, 13, 14, 15, 16, 17]), (2, [0, 1, 18, 19, 20]), (3, [0, 5, 6, 18, 21, 22, 23]), (4, [24, 25, 26, 27, 28, 29]), (5, [30, 31, 32, 33, 34]), (6, [7, 35, 36, 37, 38, 39, 40, 41, 42]), (7, [7, 10, 35, 43]), (8, [1, 8, 9, 44, 45, 46]), (9, [1, 8, 9, 44, 47, 48])]) false = some F_val_Read := by kernel_rfl
-- moraineref03.Same
abbrev c_moraineref03_Same_0 : SCode := .reg [([2, 3], [⟨(some 2), none, none, .box (.tmp 0)⟩, ⟨(some 3), none, none, .box (.tmp 1)⟩, ⟨(some 4), none, none, .mov (.val (.bool false))⟩])] [0, 1, 4]
abbrev c_moraineref03_Same_1 : SCode := .reg [([2028, 2029, 2030, 2031], [⟨(some 5), none, none, .ld true 4 (.tmp 2)⟩, ⟨(some 6), none, none, .ld true 4 (.tmp 3)⟩, ⟨(some 7), none, none, .call 33 0 [(.tmp 5), (.tmp 6)]⟩, ⟨(some 8), none, none, .bin .eql 3 (.tmp 7) (.val (.int .i64 0))⟩, ⟨(some 4), none, none, .mov (.tmp 8)⟩])] [2, 3, 5, 6, 7, 8]
abbrev F_moraineref03_Same : SFunc := ⟨9, (.seq c_moraineref03_Same_0 (.seq c_moraineref03_Same_1 .ret)), [.tmp 4], false⟩
theorem tf_moraineref03_Same : transFunc Go.Proofs.Tryz.prog 19 (hintT [(7, 0)]) (fpT []) (killT [(0, [0, 1, 4]), (1, [2, 3, 5, 6, 7, 8])]) false = some F_moraineref03_Same := by kernel_rfl
-- val.Encode
abbrev c_val_Encode_0 : SCode := .reg [([1], [⟨(some 1), none, none, .box (.tmp 0)⟩, ⟨(some 2), none, none, .mov (.val (.string ⟨#[]⟩))⟩, ⟨(some 3), none, none, .mov (.val (.int .i64 0))⟩])] [0, 2, 3]
abbrev c_val_Encode_1 : SCode := .reg [([2020, 2021, 2022, 2023], [⟨(some 4), none, none, .ld true 4 (.tmp 1)⟩, ⟨(some 5), none, none, .call 28 0 [(.tmp 4)]⟩, ⟨(some 6), none, none, .un .not (.tmp 5)⟩])] [4, 5]
abbrev c_val_Encode_2 : SCode := .reg [([], [⟨(some 2), none, none, .mov (.val (.string ⟨#[]⟩))⟩, ⟨(some 3), none, none, .mov (.val (.int .i64 30))⟩])] [1, 6]
abbrev c_val_Encode_3 : SCode := .reg [([2032, 2033, 2034, 2035], [⟨(some 7), none, none, .ld true 4 (.tmp 1)⟩, ⟨(some 8), none, none, .call 58 2 [(.val (.slice none 0 0)), (.tmp 7)]⟩, ⟨(some 9), none, none, .b2s (.tmp 8)⟩, ⟨(some 2), none, none, .mov (.tmp 9)⟩, ⟨(some 3), none, none, .mov (.val (.int .i64 0))⟩])] [1, 6, 7, 8, 9]
abbrev F_val_Encode : SFunc := ⟨10, (.seq c_val_Encode_0 (.seq (.seq c_val_Encode_1 (.cond (.tmp 6) (.seq c_val_Encode_2 .ret) .skip)) (.seq c_val_Encode_3 .ret))), [.tmp 2, .tmp 3], false⟩
theorem tf_val_Encode : transFunc Go.Proofs.Tryz.prog 20 (hintT [(5, 0), (8, 2)]) (fpT []) (killT [(0, [0, 2, 3]), (1, [4, 5]), (2, [1, 6]), (3, [1, 6, 7, 8, 9])]) false = some F_val_Encode := by kernel_rfl
-- val.Decode
abbrev c_val_Decode_0 : SCode := .reg [([4], [⟨(some 4), none, none, .new [(.int .i64 0), (.int .i64 0), (.string ⟨#[]⟩), (.slice none 0 0)]⟩, ⟨(some 5), none, none, .mov (.val (.int .i64 0))⟩, ⟨(some 6), none, none, .mov (.val (.int .i64 0))⟩])] [5, 6]
abbrev c_val_Decode_1 : SCode := .reg [([], [⟨(some 10), none, none, .mov (.tmp 1)⟩, ⟨(some 11), none, none, .bin .lss 3 (.tmp 10) (.val (.int .i64 0))⟩, ⟨(some 12), none, none, .mov (.tmp 11)⟩, ⟨(some 13), (some (12, false)), none, .mov (.tmp 1)⟩, ⟨(some 14), (some (12, false)), none, .mov (.tmp 0)⟩, ⟨(some 15), (some (12, false)), none, .slen (.tmp 14)⟩, ⟨(some 16), (some (12, false)), none, .bin .gtr 3 (.tmp 13) (.tmp 15)⟩, ⟨(some 17), none, none, .pick (.tmp 12) (.val (.bool true)) (.tmp 16)⟩])] [10, 11, 12, 13, 14, 15, 16]
abbrev c_val_Decode_2 : SCode := .reg [([], [⟨(some 18), none, none, .build [(.int .i64 0), (.int .i64 0), (.string ⟨#[]⟩), (.slice none 0 0)] []⟩, ⟨none, none, none, .st 4 (.tmp 4) (.tmp 18)⟩, ⟨(some 5), none, none, .mov (.val (.int .i64 0))⟩, ⟨(some 6), none, none, .mov (.val (.int .i64 2))⟩])] [0, 1, 17, 18]
abbrev c_val_Decode_3 : SCode := .reg [([7], [⟨(some 19), none, none, .mov (.tmp 0)⟩, ⟨(some 20), none, none, .mov (.tmp 1)⟩, ⟨(some 21), none, none, .build [(.string ⟨#[]⟩), (.int .i64 0)] [(0, 1, (.tmp 19)), (1, 1, (.tmp 20))]⟩, ⟨(some 7), none, none, .new [(.string ⟨#[]⟩), (.int .i64 0)]⟩, ⟨none, none, none, .st 2 (.tmp 7) (.tmp 21)⟩])] [0, 1, 5, 6, 17, 19, 20, 21]
abbrev c_val_Decode_4 : SCode := .reg [([2092, 2093, 2094, 2095, 8], [⟨(some 23), none, none, .call 59 1 [(.tmp 7), (.val (.int .i64 5))]⟩, ⟨(some 22), none, none, .mov (.tmp 23)⟩, ⟨(some 24), none, none, .ext (.tmp 22) 0⟩, ⟨(some 25), none, none, .ext (.tmp 22) 1⟩, ⟨(some 8), none, none, .new [(.int .i64 0), (.int .i64 0), (.string ⟨#[]⟩), (.slice none 0 0)]⟩, ⟨none, none, none, .st 4 (.tmp 8) (.tmp 24)⟩, ⟨(some 9), none, none, .mov (.tmp 25)⟩])] [22, 23, 24, 25]
abbrev c_val_Decode_5 : SCode := .reg [([], [⟨(some 26), none, none, .mov (.tmp 9)⟩, ⟨(some 27), none, none, .bin .neq 28 (.tmp 26) (.val (.int .i64 0))⟩])] [26]
abbrev c_val_Decode_6 : SCode := .reg [([], [⟨(some 28), none, none, .build [(.int .i64 0), (.int .i64 0), (.string ⟨#[]⟩), (.slice none 0 0)] []⟩, ⟨(some 29), none, none, .mov (.tmp 9)⟩, ⟨none, none, none, .st 4 (.tmp 4) (.tmp 28)⟩, ⟨(some 5), none, none, .mov (.val (.int .i64 0))⟩, ⟨(some 6), none, none, .mov (.tmp 29)⟩])] [7, 8, 9, 27, 28, 29]
abbrev c_val_Decode_7 : SCode := .reg [([], [⟨(some 30), none, (some 8), .ld true 4 (.tmp 8)⟩, ⟨(some 31), none, none, .fldA 1 (.tmp 7)⟩, ⟨(some 32), none, (some 7), .ld false 1 (.tmp 31)⟩, ⟨none, none, (some 4), .st 4 (.tmp 4) (.tmp 30)⟩, ⟨(some 5), none, none, .mov (.tmp 32)⟩, ⟨(some 6), none, none, .mov (.val (.int .i64 0))⟩])] [7, 8, 9, 27, 30, 31, 32]
abbrev F_val_Decode : SFunc := ⟨33, (.seq c_val_Decode_0 (.seq (.seq c_val_Decode_1 (.cond (.tmp 17) (.seq c_val_Decode_2 .ret) .skip)) (.seq c_val_Decode_3 (.seq c_val_Decode_4 (.seq (.seq c_val_Decode_5 (.cond (.tmp 27) (.seq c_val_Decode_6 .ret) .skip)) (.seq c_val_Decode_7 .ret)))))), [.cell true 4 4, .tmp 5, .tmp 6], false⟩
theorem tf_val_Decode : transFunc Go.Proofs.Tryz.prog 21 (hintT [(23, 1)]) (fpT [(7, [[(0, 8), (2, 7), (3, 4)]])]) (killT [(0, [5, 6]), (1, [10, 11, 12, 13, 14, 15, 16]), (2, [0, 1, 17, 18]), (3, [0, 1, 5, 6, 17, 19, 20, 21]), (4, [22, 23, 24, 25]), (5, [26]), (6, [7, 8, 9, 27, 28, 29]), (7, [7, 8, 9, 27, 30, 31, 32])]) false = some F_val_Decode := by kernel_rfl
-- morainelaw03.odd
abbrev c_morainelaw03_odd_0 : SCode := .reg [([4, 8], [⟨(some 4), none, none, .box (.tmp 0)⟩, ⟨(some 8), none, none, .new [(.int .i64 0), (.int .i64 0), (.string ⟨#[]⟩), (.slice none 0 0)]⟩])] [0]
abbrev c_morainelaw03_odd_1 : SCode := .reg [([2044, 2045, 2046, 2047], [⟨(some 10), none, none, .mov (.tmp 1)⟩, ⟨(some 11), none, none, .call 52 0 [(.tmp 10), (.val (.int .i64 6))]⟩])] [1, 10]
abbrev c_morainelaw03_odd_2 : SCode := .reg [([], [⟨(some 16), none, none, .bin .eql 3 (.tmp 11) (.val (.int .i64 0))⟩, ⟨(some 15), none, none, .mov (.tmp 16)⟩])] [16]
abbrev c_morainelaw03_odd_3 : SCode := .reg [([], [⟨(some 17), none, none, .mov (.tmp 2)⟩, ⟨(some 18), none, none, .fldA 0 (.tmp 4)⟩, ⟨none, none, none, .st 1 (.tmp 18) (.tmp 17)⟩])] [2, 3, 11, 15, 17, 18]
abbrev c_morainelaw03_odd_4 : SCode := .reg [([], [⟨(some 20), none, none, .bin .eql 3 (.tmp 11) (.val (.int .i64 1))⟩, ⟨(some 19), none, none, .mov (.tmp 20)⟩])] [15, 20]
abbrev c_morainelaw03_odd_5 : SCode := .reg [([], [⟨(some 21), none, none, .mov (.tmp 2)⟩, ⟨(some 22), none, none, .fldA 1 (.tmp 4)⟩, ⟨none, none, none, .st 1 (.tmp 22) (.tmp 21)⟩])] [2, 3, 11, 19, 21, 22]
abbrev c_morainelaw03_odd_6 : SCode := .reg [([], [⟨(some 24), none, none, .bin .eql 3 (.tmp 11) (.val (.int .i64 2))⟩, ⟨(some 23), none, none, .mov (.tmp 24)⟩])] [19, 24]
abbrev c_morainelaw03_odd_7 : SCode := .reg [([], [⟨(some 25), none, none, .mov (.tmp 3)⟩, ⟨(some 26), none, none, .fldA 2 (.tmp 4)⟩, ⟨none, none, none, .st 1 (.tmp 26) (.tmp 25)⟩])] [2, 3, 11, 23, 25, 26]
abbrev c_morainelaw03_odd_8 : SCode := .reg [([], [⟨(some 28), none, none, .bin .eql 3 (.tmp 11) (.val (.int .i64 3))⟩, ⟨(some 27), none, none, .mov (.tmp 28)⟩])] [3, 23, 28]
abbrev c_morainelaw03_odd_9 : SCode := .reg [([31, 2132, 2133, 2134, 2135], [⟨(some 29), none, none, .fldA 3 (.tmp 4)⟩, ⟨(some 30), none, none, .ld false 1 (.tmp 29)⟩, ⟨(some 31), none, none, .appN 42 4 56 (.val (.slice none 0 0)) (.tmp 30)⟩, ⟨(some 32), none, none, .mov (.tmp 2)⟩, ⟨(some 33), none, none, .call 52 0 [(.tmp 32), (.val (.int .i64 7))]⟩, ⟨(some 34), none, none, .mov (.tmp 2)⟩, ⟨(some 35), none, none, .build [(.int .i64 0), (.int .i64 0), (.string ⟨#[]⟩), (.slice none 0 0)] [(0, 1, (.tmp 33)), (1, 1, (.tmp 34))]⟩, ⟨(some 36), none, none, .bsl 4 [(.tmp 35)]⟩, ⟨(some 37), none, none, .app 42 4 56 (.tmp 31) (.tmp 36)⟩, ⟨(some 38), none, none, .fldA 3 (.tmp 4)⟩, ⟨none, none, none, .st 1 (.tmp 38) (.tmp 37)⟩]), ([31, 2132, 2133, 2134, 2135], [⟨(some 29), none, none, .fldA 3 (.tmp 4)⟩, ⟨(some 30), none, none, .ld false 1 (.tmp 29)⟩, ⟨(some 31), none, none, .appN 42 4 56 (.val (.slice none 0 0)) (.tmp 30)⟩, ⟨(some 32), none, none, .mov (.tmp 2)⟩, ⟨(some 33), none, none, .call 52 0 [(.tmp 32), (.val (.int .i64 7))]⟩, ⟨(some 34), none, none, .mov (.tmp 2)⟩, ⟨(some 35), none, none, .build [(.int .i64 0), (.int .i64 0), (.string ⟨#[]⟩), (.slice none 0 0)] [(0, 1, (.tmp 33)), (1, 1, (.tmp 34))]⟩, ⟨(some 36), none, none, .bsl 4 [(.tmp 35)]⟩, ⟨(some 37), none, none, .app 42 4 56 (.tmp 31) (.tmp 36)⟩, ⟨(some 38), none, none, .fldA 3 (.tmp 4)⟩, ⟨none, none, none, .st 1 (.tmp 38) (.tmp 37)⟩])] [2, 11, 27, 29, 30, 31, 32, 33, 34, 35, 36, 37, 38]
abbrev c_morainelaw03_odd_10 : SCode := .reg [([], [⟨(some 40), none, none, .bin .eql 3 (.tmp 11) (.val (.int .i64 4))⟩, ⟨(some 39), none, none, .mov (.tmp 40)⟩])] [11, 27, 40]
abbrev c_morainelaw03_odd_11 : SCode := .reg [([], [⟨(some 9), none, none, .mov (.val (.int .i64 0))⟩])] [39]
abbrev c_morainelaw03_odd_12 : SCode := .reg [([2172, 2173, 2174, 2175], [⟨(some 41), none, none, .mov (.tmp 9)⟩, ⟨(some 42), none, none, .mov (.tmp 2)⟩, ⟨(some 43), none, none, .call 52 0 [(.tmp 42), (.val (.int .i64 14))]⟩, ⟨(some 44), none, none, .bin .lss 3 (.tmp 41) (.tmp 43)⟩])] [41, 42, 43]
abbrev c_morainelaw03_odd_13 : SCode := .reg [([49], [⟨(some 47), none, none, .fldA 3 (.tmp 4)⟩, ⟨(some 48), none, none, .ld false 1 (.tmp 47)⟩, ⟨(some 49), none, none, .appN 42 4 56 (.val (.slice none 0 0)) (.tmp 48)⟩, ⟨(some 50), none, none, .mov (.tmp 9)⟩, ⟨(some 51), none, none, .build [(.int .i64 0), (.int .i64 0), (.string ⟨#[]⟩), (.slice none 0 0)] [(0, 1, (.val (.int .i64 1))), (1, 1, (.tmp 50))]⟩, ⟨(some 52), none, none, .bsl 4 [(.tmp 51)]⟩, ⟨(some 53), none, none, .app 42 4 56 (.tmp 49) (.tmp 52)⟩, ⟨(some 54), none, none, .fldA 3 (.tmp 4)⟩, ⟨none, none, none, .st 1 (.tmp 54) (.tmp 53)⟩]), ([49], [⟨(some 47), none, none, .fldA 3 (.tmp 4)⟩, ⟨(some 48), none, none, .ld false 1 (.tmp 47)⟩, ⟨(some 49), none, none, .appN 42 4 56 (.val (.slice none 0 0)) (.tmp 48)⟩, ⟨(some 50), none, none, .mov (.tmp 9)⟩, ⟨(some 51), none, none, .build [(.int .i64 0), (.int .i64 0), (.string ⟨#[]⟩), (.slice none 0 0)] [(0, 1, (.val (.int .i64 1))), (1, 1, (.tmp 50))]⟩, ⟨(some 52), none, none, .bsl 4 [(.tmp 51)]⟩, ⟨(some 53), none, none, .app 42 4 56 (.tmp 49) (.tmp 52)⟩, ⟨(some 54), none, none, .fldA 3 (.tmp 4)⟩, ⟨none, none, none, .st 1 (.tmp 54) (.tmp 53)⟩])] [44, 47, 48, 49, 50, 51, 52, 53, 54]
abbrev c_morainelaw03_odd_14 : SCode := .reg [([], [⟨(some 45), none, none, .mov (.tmp 9)⟩, ⟨(some 46), none, none, .bin .add 3 (.tmp 45) (.val (.int .i64 1))⟩, ⟨(some 9), none, none, .mov (.tmp 46)⟩])] [45, 46]
abbrev c_morainelaw03_odd_15 : SCode := (.seq (.seq c_morainelaw03_odd_12 (.cond (.tmp 44) .skip (.exit 1))) (.seq (.block 2 c_morainelaw03_odd_13) c_morainelaw03_odd_14))
abbrev c_morainelaw03_odd_16 : SCode := .reg [([], [⟨(some 12), none, none, .ld true 4 (.tmp 4)⟩, ⟨(some 13), none, none, .bsl 4 [(.tmp 12)]⟩, ⟨(some 14), none, none, .fldA 3 (.tmp 4)⟩, ⟨none, none, none, .st 1 (.tmp 14) (.tmp 13)⟩])] [2, 12, 13, 14, 39]
abbrev c_morainelaw03_odd_17 : SCode := .reg [([], [⟨(some 55), none, none, .ld true 4 (.tmp 4)⟩, ⟨none, none, none, .st 4 (.tmp 8) (.tmp 55)⟩])] [2, 4, 9, 55]
abbrev F_morainelaw03_odd : SFunc := ⟨56, (.seq c_morainelaw03_odd_0 (.seq (.seq c_morainelaw03_odd_1 (.block 0 (.seq c_morainelaw03_odd_2 (.cond (.tmp 15) c_morainelaw03_odd_3 (.seq c_morainelaw03_odd_4 (.cond (.tmp 19) c_morainelaw03_odd_5 (.seq c_morainelaw03_odd_6 (.cond (.tmp 23) c_morainelaw03_odd_7 (.seq c_morainelaw03_odd_8 (.cond (.tmp 27) c_morainelaw03_odd_9 (.seq c_morainelaw03_odd_10 (.cond (.tmp 39) (.seq c_morainelaw03_odd_11 (.block 1 (.loop c_morainelaw03_odd_15))) c_morainelaw03_odd_16)))))))))))) (.seq c_morainelaw03_odd_17 .ret))), [.cell true 4 8], false⟩
theorem tf_morainelaw03_odd : transFunc Go.Proofs.Tryz.prog 25 (hintT [(11, 0), (31, 1), (33, 0), (36, 0), (37, 0), (43, 0), (49, 1), (52, 0), (53, 0), (13, 0)]) (fpT []) (killT [(0, [0]), (1, [1, 10]), (3, [16]), (4, [2, 3, 11, 15, 17, 18]), (5, [15, 20]), (6, [2, 3, 11, 19, 21, 22]), (7, [19, 24]), (8, [2, 3, 11, 23, 25, 26]), (9, [3, 23, 28]), (10, [2, 11, 27, 29, 30, 31, 32, 33, 34, 35, 36, 37, 38]), (11, [11, 27, 40]), (12, [39]), (13, [41, 42, 43]), (15, [44, 47, 48, 49, 50, 51, 52, 53, 54]), (14, [45, 46]), (2, [2, 12, 13, 14, 39]), (16, [2, 4, 9, 55])]) false = some F_morainelaw03_odd := by kernel_rfl
-- val.Right
abbrev c_val_Right_0 : SCode := .reg [([1], [⟨(some 1), none, none, .box (.tmp 0)⟩, ⟨(some 2), none, none, .mov (.val (.bool false))⟩])] [0, 2]
abbrev c_val_Right_1 : SCode := .reg [([], [⟨(some 3), none, none, .fldA 0 (.tmp 1)⟩, ⟨(some 4), none, none, .ld false 1 (.tmp 3)⟩])] [3]
abbrev c_val_Right_2 : SCode := .reg [([], [⟨(some 6), none, none, .bin .eql 3 (.tmp 4) (.val (.int .i64 0))⟩, ⟨(some 5), none, none, .mov (.tmp 6)⟩])] [6]
abbrev c_val_Right_3 : SCode := .reg [([2032, 2033, 2034, 2035], [⟨(some 7), none, none, .ld true 4 (.tmp 1)⟩, ⟨(some 8), none, none, .call 63 0 [(.tmp 7)]⟩, ⟨(some 9), none, none, .mov (.tmp 8)⟩, ⟨(some 10), (some (9, true)), none, .fldA 1 (.tmp 1)⟩, ⟨(some 11), (some (9, true)), none, .ld false 1 (.tmp 10)⟩, ⟨(some 12), (some (9, true)), none, .bin .eql 3 (.tmp 11) (.val (.int .i64 0))⟩, ⟨(some 13), none, none, .pick (.tmp 9) (.tmp 12) (.val (.bool false))⟩, ⟨(some 2), none, none, .mov (.tmp 13)⟩])] [1, 4, 5, 7, 8, 9, 10, 11, 12, 13]
abbrev c_val_Right_4 : SCode := .reg [([], [⟨(some 15), none, none, .bin .eql 3 (.tmp 4) (.val (.int .i64 1))⟩, ⟨(some 14), none, none, .mov (.tmp 15)⟩])] [5, 15]
abbrev c_val_Right_5 : SCode := .reg [([2068, 2069, 2070, 2071], [⟨(some 16), none, none, .ld true 4 (.tmp 1)⟩, ⟨(some 17), none, none, .call 63 0 [(.tmp 16)]⟩, ⟨(some 18), none, none, .mov (.tmp 17)⟩, ⟨(some 19), (some (18, true)), none, .fldA 1 (.tmp 1)⟩, ⟨(some 20), (some (18, true)), none, .ld false 1 (.tmp 19)⟩, ⟨(some 21), (some (18, true)), none, .bin .geq 3 (.tmp 20) (.val (.int .i64 (-1000000000000000)))⟩, ⟨(some 22), none, none, .pick (.tmp 18) (.tmp 21) (.val (.bool false))⟩, ⟨(some 23), none, none, .mov (.tmp 22)⟩, ⟨(some 24), (some (23, true)), none, .fldA 1 (.tmp 1)⟩, ⟨(some 25), (some (23, true)), none, .ld false 1 (.tmp 24)⟩, ⟨(some 26), (some (23, true)), none, .bin .leq 3 (.tmp 25) (.val (.int .i64 1000000000000000))⟩, ⟨(some 27), none, none, .pick (.tmp 23) (.tmp 26) (.val (.bool false))⟩, ⟨(some 2), none, none, .mov (.tmp 27)⟩])] [1, 4, 14, 16, 17, 18, 19, 20, 21, 22, 23, 24, 25, 26, 27]
abbrev c_val_Right_6 : SCode := .reg [([], [⟨(some 29), none, none, .bin .eql 3 (.tmp 4) (.val (.int .i64 2))⟩, ⟨(some 28), none, none, .mov (.tmp 29)⟩])] [14, 29]
abbrev c_val_Right_7 : SCode := .reg [([2168, 2169, 2170, 2171], [⟨(some 30), none, none, .fldA 1 (.tmp 1)⟩, ⟨(some 31), none, none, .ld false 1 (.tmp 30)⟩, ⟨(some 32), none, none, .bin .eql 3 (.tmp 31) (.val (.int .i64 0))⟩, ⟨(some 33), none, none, .mov (.tmp 32)⟩, ⟨(some 34), (some (33, true)), none, .fldA 3 (.tmp 1)⟩, ⟨(some 35), (some (33, true)), none, .ld false 1 (.tmp 34)⟩, ⟨(some 36), (some (33, true)), none, .len (.tmp 35)⟩, ⟨(some 37), (some (33, true)), none, .bin .eql 3 (.tmp 36) (.val (.int .i64 0))⟩, ⟨(some 38), none, none, .pick (.tmp 33) (.tmp 37) (.val (.bool false))⟩, ⟨(some 39), none, none, .mov (.tmp 38)⟩, ⟨(some 40), (some (39, true)), none, .fldA 2 (.tmp 1)⟩, ⟨(some 41), (some (39, true)), none, .ld false 1 (.tmp 40)⟩, ⟨(some 42), (some (39, true)), none, .call 64 0 [(.tmp 41)]⟩, ⟨(some 43), none, none, .pick (.tmp 39) (.tmp 42) (.val (.bool false))⟩, ⟨(some 2), none, none, .mov (.tmp 43)⟩])] [1, 4, 28, 30, 31, 32, 33, 34, 35, 36, 37, 38, 39, 40, 41, 42, 43]
abbrev c_val_Right_8 : SCode := .reg [([], [⟨(some 45), none, none, .bin .eql 3 (.tmp 4) (.val (.int .i64 3))⟩, ⟨(some 44), none, none, .mov (.tmp 45)⟩])] [28, 45]
abbrev c_val_Right_9 : SCode := .reg [([], [⟨(some 46), none, none, .bin .eql 3 (.tmp 4) (.val (.int .i64 4))⟩, ⟨(some 44), none, none, .mov (.tmp 46)⟩])] [46]
abbrev c_val_Right_10 : SCode := .reg [([2192, 2193, 2194, 2195, 2208, 2209, 2210, 2211], [⟨(some 47), none, none, .ld true 4 (.tmp 1)⟩, ⟨(some 48), none, none, .call 63 0 [(.tmp 47)]⟩, ⟨(some 49), none, none, .mov (.tmp 48)⟩, ⟨(some 50), (some (49, true)), none, .fldA 1 (.tmp 1)⟩, ⟨(some 51), (some (49, true)), none, .ld false 1 (.tmp 50)⟩, ⟨(some 52), (some (49, true)), none, .call 65 0 [(.tmp 51)]⟩, ⟨(some 53), none, none, .pick (.tmp 49) (.tmp 52) (.val (.bool false))⟩, ⟨(some 2), none, none, .mov (.tmp 53)⟩])] [1, 4, 44, 47, 48, 49, 50, 51, 52, 53]
abbrev c_val_Right_11 : SCode := .reg [([], [⟨(some 55), none, none, .bin .eql 3 (.tmp 4) (.val (.int .i64 5))⟩, ⟨(some 54), none, none, .mov (.tmp 55)⟩])] [4, 44, 55]
abbrev c_val_Right_12 : SCode := .reg [([2292, 2293, 2294, 2295], [⟨(some 56), none, none, .fldA 1 (.tmp 1)⟩, ⟨(some 57), none, none, .ld false 1 (.tmp 56)⟩, ⟨(some 58), none, none, .bin .eql 3 (.tmp 57) (.val (.int .i64 0))⟩, ⟨(some 59), none, none, .mov (.tmp 58)⟩, ⟨(some 60), (some (59, true)), none, .fldA 2 (.tmp 1)⟩, ⟨(some 61), (some (59, true)), none, .ld false 1 (.tmp 60)⟩, ⟨(some 62), (some (59, true)), none, .bin .eql 9 (.tmp 61) (.val (.string ⟨#[]⟩))⟩, ⟨(some 63), none, none, .pick (.tmp 59) (.tmp 62) (.val (.bool false))⟩, ⟨(some 64), none, none, .mov (.tmp 63)⟩, ⟨(some 65), (some (64, true)), none, .fldA 3 (.tmp 1)⟩, ⟨(some 66), (some (64, true)), none, .ld false 1 (.tmp 65)⟩, ⟨(some 67), (some (64, true)), none, .len (.tmp 66)⟩, ⟨(some 68), (some (64, true)), none, .bin .leq 3 (.tmp 67) (.val (.int .i64 12))⟩, ⟨(some 69), none, none, .pick (.tmp 64) (.tmp 68) (.val (.bool false))⟩, ⟨(some 70), none, none, .mov (.tmp 69)⟩, ⟨(some 71), (some (70, true)), none, .fldA 3 (.tmp 1)⟩, ⟨(some 72), (some (70, true)), none, .ld false 1 (.tmp 71)⟩, ⟨(some 73), (some (70, true)), none, .call 66 1 [(.tmp 72), (.val (.func (.func 67) #[] #[]))]⟩, ⟨(some 74), (some (70, true)), none, .un .not (.tmp 73)⟩, ⟨(some 75), none, none, .pick (.tmp 70) (.tmp 74) (.val (.bool false))⟩, ⟨(some 2), none, none, .mov (.tmp 75)⟩])] [1, 54, 56, 57, 58, 59, 60, 61, 62, 63, 64, 65, 66, 67, 68, 69, 70, 71, 72, 73, 74, 75]
abbrev c_val_Right_13 : SCode := .reg [([], [⟨(some 2), none, none, .mov (.val (.bool false))⟩])] [1, 54]
abbrev F_val_Right : SFunc := ⟨76, (.seq c_val_Right_0 (.seq (.seq c_val_Right_1 (.block 0 (.seq c_val_Right_2 (.cond (.tmp 5) (.seq c_val_Right_3 .ret) (.seq c_val_Right_4 (.cond (.tmp 14) (.seq c_val_Right_5 .ret) (.seq c_val_Right_6 (.cond (.tmp 28) (.seq c_val_Right_7 .ret) (.seq (.seq c_val_Right_8 (.cond (.tmp 44) .skip c_val_Right_9)) (.cond (.tmp 44) (.seq c_val_Right_10 .ret) (.seq c_val_Right_11 (.cond (.tmp 54) (.seq c_val_Right_12 .ret) .skip)))))))))))) (.seq c_val_Right_13 .ret))), [.tmp 2], false⟩
theorem tf_val_Right : transFunc Go.Proofs.Tryz.prog 28 (hintT [(8, 0), (17, 0), (42, 0), (48, 0), (52, 0), (73, 1)]) (fpT []) (killT [(0, [0, 2]), (1, [3]), (2, [6]), (3, [1, 4, 5, 7, 8, 9, 10, 11, 12, 13]), (4, [5, 15]), (5, [1, 4, 14, 16, 17, 18, 19, 20, 21, 22, 23, 24, 25, 26, 27]), (6, [14, 29]), (7, [1, 4, 28, 30, 31, 32, 33, 34, 35, 36, 37, 38, 39, 40, 41, 42, 43]), (8, [28, 45]), (9, [46]), (10, [1, 4, 44, 47, 48, 49, 50, 51, 52, 53]), (11, [4, 44, 55]), (12, [1, 54, 56, 57, 58, 59, 60, 61, 62, 63, 64, 65, 66, 67, 68, 69, 70, 71, 72, 73, 74, 75]), (13, [1, 54])]) false = some F_val_Right := by kernel_rfl
-- val.Compare
abbrev c_val_Compare_0 : SCode := .reg [([2, 3], [⟨(some 2), none, none, .box (.tmp 0)⟩, ⟨(some 3), none, none, .box (.tmp 1)⟩, ⟨(some 4), none, none, .mov (.val (.int .i64 0))⟩])] [0, 1, 4]
abbrev c_val_Compare_1 : SCode := .reg [([2048, 2049, 2050, 2051], [⟨(some 8), none, none, .fldA 0 (.tmp 2)⟩, ⟨(some 9), none, none, .ld false 1 (.tmp 8)⟩, ⟨(some 10), none, none, .fldA 0 (.tmp 3)⟩, ⟨(some 11), none, none, .ld false 1 (.tmp 10)⟩, ⟨(some 12), none, none, .call 70 0 [(.tmp 9), (.tmp 11)]⟩, ⟨(some 5), none, none, .mov (.tmp 12)⟩])] [8, 9, 10, 11, 12]
abbrev c_val_Compare_2 : SCode := .reg [([], [⟨(some 13), none, none, .mov (.tmp 5)⟩, ⟨(some 14), none, none, .bin .neq 3 (.tmp 13) (.val (.int .i64 0))⟩])] [13]
abbrev c_val_Compare_3 : SCode := .reg [([], [⟨(some 15), none, none, .mov (.tmp 5)⟩, ⟨(some 4), none, none, .mov (.tmp 15)⟩])] [2, 3, 5, 14, 15]
abbrev c_val_Compare_4 : SCode := .reg [([2080, 2081, 2082, 2083], [⟨(some 16), none, none, .fldA 1 (.tmp 2)⟩, ⟨(some 17), none, none, .ld false 1 (.tmp 16)⟩, ⟨(some 18), none, none, .fldA 1 (.tmp 3)⟩, ⟨(some 19), none, none, .ld false 1 (.tmp 18)⟩, ⟨(some 20), none, none, .call 70 0 [(.tmp 17), (.tmp 19)]⟩, ⟨(some 6), none, none, .mov (.tmp 20)⟩])] [4, 5, 14, 16, 17, 18, 19, 20]
abbrev c_val_Compare_5 : SCode := .reg [([], [⟨(some 21), none, none, .mov (.tmp 6)⟩, ⟨(some 22), none, none, .bin .neq 3 (.tmp 21) (.val (.int .i64 0))⟩])] [21]
abbrev c_val_Compare_6 : SCode := .reg [([], [⟨(some 23), none, none, .mov (.tmp 6)⟩, ⟨(some 4), none, none, .mov (.tmp 23)⟩])] [2, 3, 6, 22, 23]
abbrev c_val_Compare_7 : SCode := .reg [([2112, 2113, 2114, 2115], [⟨(some 24), none, none, .fldA 2 (.tmp 2)⟩, ⟨(some 25), none, none, .ld false 1 (.tmp 24)⟩, ⟨(some 26), none, none, .fldA 2 (.tmp 3)⟩, ⟨(some 27), none, none, .ld false 1 (.tmp 26)⟩, ⟨(some 28), none, none, .call 71 0 [(.tmp 25), (.tmp 27)]⟩, ⟨(some 7), none, none, .mov (.tmp 28)⟩])] [4, 6, 22, 24, 25, 26, 27, 28]
abbrev c_val_Compare_8 : SCode := .reg [([], [⟨(some 29), none, none, .mov (.tmp 7)⟩, ⟨(some 30), none, none, .bin .neq 3 (.tmp 29) (.val (.int .i64 0))⟩])] [29]
abbrev c_val_Compare_9 : SCode := .reg [([], [⟨(some 31), none, none, .mov (.tmp 7)⟩, ⟨(some 4), none, none, .mov (.tmp 31)⟩])] [2, 3, 7, 30, 31]
abbrev c_val_Compare_10 : SCode := .reg [([2144, 2145, 2146, 2147], [⟨(some 32), none, none, .fldA 3 (.tmp 2)⟩, ⟨(some 33), none, none, .ld false 1 (.tmp 32)⟩, ⟨(some 34), none, none, .fldA 3 (.tmp 3)⟩, ⟨(some 35), none, none, .ld false 1 (.tmp 34)⟩, ⟨(some 36), none, none, .call 72 1 [(.tmp 33), (.tmp 35), (.val (.func (.func 32) #[] #[]))]⟩, ⟨(some 4), none, none, .mov (.tmp 36)⟩])] [2, 3, 7, 30, 32, 33, 34, 35, 36]
abbrev F_val_Compare : SFunc := ⟨37, (.seq c_val_Compare_0 (.seq (.seq c_val_Compare_1 (.seq c_val_Compare_2 (.cond (.tmp 14) (.seq c_val_Compare_3 .ret) .skip))) (.seq (.seq c_val_Compare_4 (.seq c_val_Compare_5 (.cond (.tmp 22) (.seq c_val_Compare_6 .ret) .skip))) (.seq (.seq c_val_Compare_7 (.seq c_val_Compare_8 (.cond (.tmp 30) (.seq c_val_Compare_9 .ret) .skip))) (.seq c_val_Compare_10 .ret))))), [.tmp 4], false⟩
theorem tf_val_Compare : transFunc Go.Proofs.Tryz.prog 32 (hintT [(12, 0), (20, 0), (28, 0), (36, 1)]) (fpT []) (killT [(0, [0, 1, 4]), (1, [8, 9, 10, 11, 12]), (2, [13]), (3, [2, 3, 5, 14, 15]), (4, [4, 5, 14, 16, 17, 18, 19, 20]), (5, [21]), (6, [2, 3, 6, 22, 23]), (7, [4, 6, 22, 24, 25, 26, 27, 28]), (8, [29]), (9, [2, 3, 7, 30, 31]), (10, [2, 3, 7, 30, 32, 33, 34, 35, 36])]) false = some F_val_Compare := by kernel_rfl
-- moraineref03.Compare
abbrev c_moraineref03_Compare_0 : SCode := .reg [([2, 3], [⟨(some 2), none, none, .box (.tmp 0)⟩, ⟨(some 3), none, none, .box (.tmp 1)⟩, ⟨(some 4), none, none, .mov (.val (.int .i64 0))⟩])] [0, 1, 4]
abbrev c_moraineref03_Compare_1 : SCode := .reg [([2044, 2045, 2046, 2047], [⟨(some 7), none, none, .fldA 0 (.tmp 2)⟩, ⟨(some 8), none, none, .ld false 1 (.tmp 7)⟩, ⟨(some 9), none, none, .fldA 0 (.tmp 3)⟩, ⟨(some 10), none, none, .ld false 1 (.tmp 9)⟩, ⟨(some 11), none, none, .call 73 0 [(.tmp 8), (.tmp 10)]⟩, ⟨(some 5), none, none, .mov (.tmp 11)⟩])] [7, 8, 9, 10, 11]
abbrev c_moraineref03_Compare_2 : SCode := .reg [([], [⟨(some 12), none, none, .mov (.tmp 5)⟩, ⟨(some 13), none, none, .bin .eql 3 (.tmp 12) (.val (.int .i64 0))⟩])] [12]
abbrev c_moraineref03_Compare_3 : SCode := .reg [([2072, 2073, 2074, 2075], [⟨(some 14), none, none, .fldA 1 (.tmp 2)⟩, ⟨(some 15), none, none, .ld false 1 (.tmp 14)⟩, ⟨(some 16), none, none, .fldA 1 (.tmp 3)⟩, ⟨(some 17), none, none, .ld false 1 (.tmp 16)⟩, ⟨(some 18), none, none, .call 73 0 [(.tmp 15), (.tmp 17)]⟩, ⟨(some 5), none, none, .mov (.tmp 18)⟩])] [13, 14, 15, 16, 17, 18]
abbrev c_moraineref03_Compare_4 : SCode := .reg [([], [⟨(some 19), none, none, .mov (.tmp 5)⟩, ⟨(some 20), none, none, .bin .eql 3 (.tmp 19) (.val (.int .i64 0))⟩, ⟨(some 21), none, none, .mov (.tmp 20)⟩, ⟨(some 22), (some (21, true)), none, .fldA 2 (.tmp 2)⟩, ⟨(some 23), (some (21, true)), none, .ld false 1 (.tmp 22)⟩, ⟨(some 24), (some (21, true)), none, .fldA 2 (.tmp 3)⟩, ⟨(some 25), (some (21, true)), none, .ld false 1 (.tmp 24)⟩, ⟨(some 26), (some (21, true)), none, .bin .lss 9 (.tmp 23) (.tmp 25)⟩, ⟨(some 27), none, none, .pick (.tmp 21) (.tmp 26) (.val (.bool false))⟩])] [13, 19, 20, 21, 22, 23, 24, 25, 26]
abbrev c_moraineref03_Compare_5 : SCode := .reg [([], [⟨(some 5), none, none, .mov (.val (.int .i64 (-1)))⟩])] [27]
abbrev c_moraineref03_Compare_6 : SCode := .reg [([], [⟨(some 28), none, none, .mov (.tmp 5)⟩, ⟨(some 29), none, none, .bin .eql 3 (.tmp 28) (.val (.int .i64 0))⟩, ⟨(some 30), none, none, .mov (.tmp 29)⟩, ⟨(some 31), (some (30, true)), none, .fldA 2 (.tmp 2)⟩, ⟨(some 32), (some (30, true)), none, .ld false 1 (.tmp 31)⟩, ⟨(some 33), (some (30, true)), none, .fldA 2 (.tmp 3)⟩, ⟨(some 34), (some (30, true)), none, .ld false 1 (.tmp 33)⟩, ⟨(some 35), (some (30, true)), none, .bin .gtr 9 (.tmp 32) (.tmp 34)⟩, ⟨(some 36), none, none, .pick (.tmp 30) (.tmp 35) (.val (.bool false))⟩])] [27, 28, 29, 30, 31, 32, 33, 34, 35]
abbrev c_moraineref03_Compare_7 : SCode := .reg [([], [⟨(some 5), none, none, .mov (.val (.int .i64 1))⟩])] [36]
abbrev c_moraineref03_Compare_8 : SCode := .reg [([], [⟨(some 6), none, none, .mov (.val (.int .i64 0))⟩])] [36]
abbrev c_moraineref03_Compare_9 : SCode := .reg [([], [⟨(some 37), none, none, .mov (.tmp 5)⟩, ⟨(some 38), none, none, .bin .eql 3 (.tmp 37) (.val (.int .i64 0))⟩, ⟨(some 39), none, none, .mov (.tmp 38)⟩, ⟨(some 40), (some (39, true)), none, .mov (.tmp 6)⟩, ⟨(some 41), (some (39, true)), none, .fldA 3 (.tmp 2)⟩, ⟨(some 42), (some (39, true)), none, .ld false 1 (.tmp 41)⟩, ⟨(some 43), (some (39, true)), none, .len (.tmp 42)⟩, ⟨(some 44), (some (39, true)), none, .bin .lss 3 (.tmp 40) (.tmp 43)⟩, ⟨(some 45), none, none, .pick (.tmp 39) (.tmp 44) (.val (.bool false))⟩, ⟨(some 46), none, none, .mov (.tmp 45)⟩, ⟨(some 47), (some (46, true)), none, .mov (.tmp 6)⟩, ⟨(some 48), (some (46, true)), none, .fldA 3 (.tmp 3)⟩, ⟨(some 49), (some (46, true)), none, .ld false 1 (.tmp 48)⟩, ⟨(some 50), (some (46, true)), none, .len (.tmp 49)⟩, ⟨(some 51), (some (46, true)), none, .bin .lss 3 (.tmp 47) (.tmp 50)⟩, ⟨(some 52), none, none, .pick (.tmp 46) (.tmp 51) (.val (.bool false))⟩])] [37, 38, 39, 40, 41, 42, 43, 44, 45, 46, 47, 48, 49, 50, 51]
abbrev c_moraineref03_Compare_10 : SCode := .reg [([2260, 2261, 2262, 2263], [⟨(some 55), none, none, .fldA 3 (.tmp 2)⟩, ⟨(some 56), none, none, .ld false 1 (.tmp 55)⟩, ⟨(some 57), none, none, .mov (.tmp 6)⟩, ⟨(some 58), none, none, .idxA 4 (.tmp 56) (.tmp 57)⟩, ⟨(some 59), none, none, .ld true 4 (.tmp 58)⟩, ⟨(some 60), none, none, .fldA 3 (.tmp 3)⟩, ⟨(some 61), none, none, .ld false 1 (.tmp 60)⟩, ⟨(some 62), none, none, .mov (.tmp 6)⟩, ⟨(some 63), none, none, .idxA 4 (.tmp 61) (.tmp 62)⟩, ⟨(some 64), none, none, .ld true 4 (.tmp 63)⟩, ⟨(some 65), none, none, .call 33 0 [(.tmp 59), (.tmp 64)]⟩, ⟨(some 5), none, none, .mov (.tmp 65)⟩])] [52, 55, 56, 57, 58, 59, 60, 61, 62, 63, 64, 65]
abbrev c_moraineref03_Compare_11 : SCode := .reg [([], [⟨(some 53), none, none, .mov (.tmp 6)⟩, ⟨(some 54), none, none, .bin .add 3 (.tmp 53) (.val (.int .i64 1))⟩, ⟨(some 6), none, none, .mov (.tmp 54)⟩])] [53, 54]
abbrev c_moraineref03_Compare_12 : SCode := (.seq (.seq c_moraineref03_Compare_9 (.cond (.tmp 52) .skip (.exit 0))) (.seq (.block 1 c_moraineref03_Compare_10) c_moraineref03_Compare_11))
abbrev c_moraineref03_Compare_13 : SCode := .reg [([], [⟨(some 66), none, none, .mov (.tmp 5)⟩, ⟨(some 67), none, none, .bin .eql 3 (.tmp 66) (.val (.int .i64 0))⟩])] [6, 66]
abbrev c_moraineref03_Compare_14 : SCode := .reg [([2296, 2297, 2298, 2299], [⟨(some 68), none, none, .fldA 3 (.tmp 2)⟩, ⟨(some 69), none, none, .ld false 1 (.tmp 68)⟩, ⟨(some 70), none, none, .len (.tmp 69)⟩, ⟨(some 71), none, none, .fldA 3 (.tmp 3)⟩, ⟨(some 72), none, none, .ld false 1 (.tmp 71)⟩, ⟨(some 73), none, none, .len (.tmp 72)⟩, ⟨(some 74), none, none, .call 73 0 [(.tmp 70), (.tmp 73)]⟩, ⟨(some 4), none, none, .mov (.tmp 74)⟩])] [2, 3, 5, 67, 68, 69, 70, 71, 72, 73, 74]
abbrev c_moraineref03_Compare_15 : SCode := .reg [([], [⟨(some 75), none, none, .mov (.tmp 5)⟩, ⟨(some 4), none, none, .mov (.tmp 75)⟩])] [2, 3, 5, 67, 75]
abbrev F_moraineref03_Compare : SFunc := ⟨76, (.seq c_moraineref03_Compare_0 (.seq c_moraineref03_Compare_1 (.seq (.seq c_moraineref03_Compare_2 (.cond (.tmp 13) c_moraineref03_Compare_3 .skip)) (.seq (.seq c_moraineref03_Compare_4 (.cond (.tmp 27) c_moraineref03_Compare_5 .skip)) (.seq (.seq c_moraineref03_Compare_6 (.cond (.tmp 36) c_moraineref03_Compare_7 .skip)) (.seq (.seq c_moraineref03_Compare_8 (.block 0 (.loop c_moraineref03_Compare_12))) (.seq (.seq c_moraineref03_Compare_13 (.cond (.tmp 67) (.seq c_moraineref03_Compare_14 .ret) .skip)) (.seq c_moraineref03_Compare_15 .ret)))))))), [.tmp 4], false⟩
theorem tf_moraineref03_Compare : transFunc Go.Proofs.Tryz.prog 33 (hintT [(11, 0), (18, 0), (65, 0), (74, 0)]) (fpT []) (killT [(0, [0, 1, 4]), (1, [7, 8, 9, 10, 11]), (2, [12]), (3, [13, 14, 15, 16, 17, 18]), (4, [13, 19, 20, 21, 22, 23, 24, 25, 26]), (5, [27]), (6, [27, 28, 29, 30, 31, 32, 33, 34, 35]), (7, [36]), (8, [36]), (9, [37, 38, 39, 40, 41, 42, 43, 44, 45, 46, 47, 48, 49, 50, 51]), (11, [52, 55, 56, 57, 58, 59, 60, 61, 62, 63, 64, 65]), (10, [53, 54]), (12, [6, 66]), (13, [2, 3, 5, 67, 68, 69, 70, 71, 72, 73, 74]), (14, [2, 3, 5, 67, 75])]) false = some F_moraineref03_Compare := by kernel_rfl
-- val.Same
abbrev c_val_Same_0 : SCode := .reg [([2, 3], [⟨(some 2), none, none, .box (.tmp 0)⟩, ⟨(some 3), none, none, .box (.tmp 1)⟩, ⟨(some 4), none, none, .mov (.val (.bool false))⟩])] [0, 1, 4]
abbrev c_val_Same_1 : SCode := .reg [([2028, 2029, 2030, 2031], [⟨(some 5), none, none, .ld true 4 (.tmp 2)⟩, ⟨(some 6), none, none, .ld true 4 (.tmp 3)⟩, ⟨(some 7), none, none, .call 32 0 [(.tmp 5), (.tmp 6)]⟩, ⟨(some 8), none, none, .bin .eql 3 (.tmp 7) (.val (.int .i64 0))⟩, ⟨(some 4), none, none, .mov (.tmp 8)⟩])] [2, 3, 5, 6, 7, 8]
abbrev F_val_Same : SFunc := ⟨9, (.seq c_val_Same_0 (.seq c_val_Same_1 .ret)), [.tmp 4], false⟩
theorem tf_val_Same : transFunc Go.Proofs.Tryz.prog 34 (hintT [(7, 0)]) (fpT []) (killT [(0, [0, 1, 4]), (1, [2, 3, 5, 6, 7, 8])]) false = some F_val_Same := by kernel_rfl
-- morainelaw03.ValType
abbrev c_morainelaw03_ValType_0 : SCode := .reg [([4], [⟨(some 4), none, none, .new [(.int .i64 0), (.int .i64 0)]⟩])] []
abbrev c_morainelaw03_ValType_1 : SCode := .reg [([2028, 2029, 2030, 2031], [⟨(some 6), none, none, .mov (.tmp 0)⟩, ⟨(some 7), none, none, .call 52 0 [(.tmp 6), (.val (.int .i64 6))]⟩, ⟨(some 8), none, none, .bin .add 3 (.val (.int .i64 1)) (.tmp 7)⟩, ⟨(some 5), none, none, .mov (.tmp 8)⟩])] [0, 6, 7, 8]
abbrev c_morainelaw03_ValType_2 : SCode := .reg [([], [⟨(some 9), none, none, .mov (.tmp 5)⟩, ⟨(some 10), none, none, .bin .lss 3 (.tmp 9) (.val (.int .i64 5))⟩])] [9]
abbrev c_morainelaw03_ValType_3 : SCode := .reg [([], [⟨(some 11), none, none, .mov (.tmp 5)⟩, ⟨(some 12), none, none, .build [(.int .i64 0), (.int .i64 0)] [(0, 1, (.tmp 11))]⟩, ⟨none, none, none, .st 2 (.tmp 4) (.tmp 12)⟩])] [1, 5, 10, 11, 12]
abbrev c_morainelaw03_ValType_4 : SCode := .reg [([2056, 2057, 2058, 2059], [⟨(some 13), none, none, .mov (.tmp 1)⟩, ⟨(some 14), none, none, .call 52 0 [(.tmp 13), (.val (.int .i64 4))]⟩, ⟨(some 15), none, none, .bin .add 3 (.val (.int .i64 1)) (.tmp 14)⟩, ⟨(some 16), none, none, .build [(.int .i64 0), (.int .i64 0)] [(0, 1, (.val (.int .i64 5))), (1, 1, (.tmp 15))]⟩, ⟨none, none, none, .st 2 (.tmp 4) (.tmp 16)⟩])] [1, 5, 10, 13, 14, 15, 16]
abbrev F_morainelaw03_ValType : SFunc := ⟨17, (.seq c_morainelaw03_ValType_0 (.seq c_morainelaw03_ValType_1 (.seq (.seq c_morainelaw03_ValType_2 (.cond (.tmp 10) (.seq c_morainelaw03_ValType_3 .ret) .skip)) (.seq c_morainelaw03_ValType_4 .ret)))), [.cell true 2 4], false⟩
theorem tf_morainelaw03_ValType : transFunc Go.Proofs.Tryz.prog 35 (hintT [(7, 0), (14, 0)]) (fpT []) (killT [(1, [0, 6, 7, 8]), (2, [9]), (3, [1, 5, 10, 11, 12]), (4, [1, 5, 10, 13, 14, 15, 16])]) false = some F_morainelaw03_ValType := by kernel_rfl
-- val.Fits
abbrev c_val_Fits_0 : SCode := .reg [([2, 3], [⟨(some 2), none, none, .box (.tmp 0)⟩, ⟨(some 3), none, none, .box (.tmp 1)⟩, ⟨(some 4), none, none, .mov (.val (.bool false))⟩])] [0, 1, 4]
abbrev c_val_Fits_1 : SCode := .reg [([2024, 2025, 2026, 2027, 2040, 2041, 2042, 2043, 2068, 2069, 2070, 2071], [⟨(some 5), none, none, .ld true 4 (.tmp 2)⟩, ⟨(some 6), none, none, .call 28 0 [(.tmp 5)]⟩, ⟨(some 7), none, none, .un .not (.tmp 6)⟩, ⟨(some 8), none, none, .mov (.tmp 7)⟩, ⟨(some 9), (some (8, false)), none, .ld true 2 (.tmp 3)⟩, ⟨(some 10), (some (8, false)), none, .call 74 0 [(.tmp 9)]⟩, ⟨(some 11), (some (8, false)), none, .un .not (.tmp 10)⟩, ⟨(some 12), none, none, .pick (.tmp 8) (.val (.bool true)) (.tmp 11)⟩, ⟨(some 13), none, none, .mov (.tmp 12)⟩, ⟨(some 14), (some (13, false)), none, .ld true 4 (.tmp 2)⟩, ⟨(some 15), (some (13, false)), none, .fldA 0 (.tmp 3)⟩, ⟨(some 16), (some (13, false)), none, .ld false 1 (.tmp 15)⟩, ⟨(some 17), (some (13, false)), none, .call 75 0 [(.tmp 14), (.tmp 16)]⟩, ⟨(some 18), (some (13, false)), none, .un .not (.tmp 17)⟩, ⟨(some 19), none, none, .pick (.tmp 13) (.val (.bool true)) (.tmp 18)⟩])] [5, 6, 7, 8, 9, 10, 11, 12, 13, 14, 15, 16, 17, 18]
abbrev c_val_Fits_2 : SCode := .reg [([], [⟨(some 4), none, none, .mov (.val (.bool false))⟩])] [2, 3, 19]
abbrev c_val_Fits_3 : SCode := .reg [([2092, 2093, 2094, 2095], [⟨(some 20), none, none, .fldA 3 (.tmp 2)⟩, ⟨(some 21), none, none, .ld false 1 (.tmp 20)⟩, ⟨(some 22), none, none, .mkf (.func 76) [] [(.tmp 3)]⟩, ⟨(some 23), none, none, .call 66 1 [(.tmp 21), (.tmp 22)]⟩, ⟨(some 24), none, none, .un .not (.tmp 23)⟩, ⟨(some 4), none, none, .mov (.tmp 24)⟩])] [2, 3, 19, 20, 21, 22, 23, 24]
abbrev F_val_Fits : SFunc := ⟨25, (.seq c_val_Fits_0 (.seq (.seq c_val_Fits_1 (.cond (.tmp 19) (.seq c_val_Fits_2 .ret) .skip)) (.seq c_val_Fits_3 .ret))), [.tmp 4], false⟩
theorem tf_val_Fits : transFunc Go.Proofs.Tryz.prog 36 (hintT [(6, 0), (10, 0), (17, 0), (23, 1)]) (fpT []) (killT [(0, [0, 1, 4]), (1, [5, 6, 7, 8, 9, 10, 11, 12, 13, 14, 15, 16, 17, 18]), (2, [2, 3, 19]), (3, [2, 3, 19, 20, 21, 22, 23, 24])]) false = some F_val_Fits := by kernel_rfl
-- val.Zero
abbrev c_val_Zero_0 : SCode := .reg [([1, 2], [⟨(some 1), none, none, .box (.tmp 0)⟩, ⟨(some 2), none, none, .new [(.int .i64 0), (.int .i64 0), (.string ⟨#[]⟩), (.slice none 0 0)]⟩])] [0]
abbrev c_val_Zero_1 : SCode := .reg [([2016, 2017, 2018, 2019], [⟨(some 3), none, none, .ld true 2 (.tmp 1)⟩, ⟨(some 4), none, none, .call 74 0 [(.tmp 3)]⟩, ⟨(some 5), none, none, .un .not (.tmp 4)⟩, ⟨(some 6), none, none, .mov (.tmp 5)⟩, ⟨(some 7), (some (6, false)), none, .fldA 0 (.tmp 1)⟩, ⟨(some 8), (some (6, false)), none, .ld false 1 (.tmp 7)⟩, ⟨(some 9), (some (6, false)), none, .bin .eql 3 (.tmp 8) (.val (.int .i64 3))⟩, ⟨(some 10), none, none, .pick (.tmp 6) (.val (.bool true)) (.tmp 9)⟩, ⟨(some 11), none, none, .mov (.tmp 10)⟩, ⟨(some 12), (some (11, false)), none, .fldA 0 (.tmp 1)⟩, ⟨(some 13), (some (11, false)), none, .ld false 1 (.tmp 12)⟩, ⟨(some 14), (some (11, false)), none, .bin .eql 3 (.tmp 13) (.val (.int .i64 4))⟩, ⟨(some 15), none, none, .pick (.tmp 11) (.val (.bool true)) (.tmp 14)⟩])] [3, 4, 5, 6, 7, 8, 9, 10, 11, 12, 13, 14]
abbrev c_val_Zero_2 : SCode := .reg [([], [⟨(some 16), none, none, .build [(.int .i64 0), (.int .i64 0), (.string ⟨#[]⟩), (.slice none 0 0)] []⟩, ⟨none, none, none, .st 4 (.tmp 2) (.tmp 16)⟩])] [1, 15, 16]
abbrev c_val_Zero_3 : SCode := .reg [([], [⟨(some 17), none, none, .fldA 0 (.tmp 1)⟩, ⟨(some 18), none, none, .ld false 1 (.tmp 17)⟩, ⟨(some 19), none, none, .build [(.int .i64 0), (.int .i64 0), (.string ⟨#[]⟩), (.slice none 0 0)] [(0, 1, (.tmp 18))]⟩, ⟨none, none, none, .st 4 (.tmp 2) (.tmp 19)⟩])] [1, 15, 17, 18, 19]
abbrev F_val_Zero : SFunc := ⟨20, (.seq c_val_Zero_0 (.seq (.seq c_val_Zero_1 (.cond (.tmp 15) (.seq c_val_Zero_2 .ret) .skip)) (.seq c_val_Zero_3 .ret))), [.cell true 4 2], false⟩
theorem tf_val_Zero : transFunc Go.Proofs.Tryz.prog 38 (hintT [(4, 0)]) (fpT []) (killT [(0, [0]), (1, [3, 4, 5, 6, 7, 8, 9, 10, 11, 12, 13, 14]), (2, [1, 15, 16]), (3, [1, 15, 17, 18, 19])]) false = some F_val_Zero := by kernel_rfl
-- morainelaw03.pick
abbrev c_morainelaw03_pick_0 : SCode := .reg [([], [⟨(some 4), none, none, .mov (.val (.int .i64 0))⟩])] [4]
abbrev c_morainelaw03_pick_1 : SCode := .reg [([], [⟨(some 5), none, none, .mov (.tmp 0)⟩, ⟨(some 6), none, none, .bin .lss 3 (.tmp 5) (.val (.int .i64 0))⟩])] [5]
abbrev c_morainelaw03_pick_2 : SCode := .reg [([], [⟨(some 7), none, none, .mov (.tmp 0)⟩, ⟨(some 8), none, none, .bin .add 3 (.tmp 7) (.val (.int .i64 1))⟩, ⟨(some 9), none, none, .un .neg (.tmp 8)⟩, ⟨(some 0), none, none, .mov (.tmp 9)⟩])] [6, 7, 8, 9]
abbrev c_morainelaw03_pick_3 : SCode := .reg [([], [⟨(some 10), none, none, .mov (.tmp 0)⟩, ⟨(some 11), none, none, .mov (.tmp 1)⟩, ⟨(some 12), none, none, .bin .rem 3 (.tmp 10) (.tmp 11)⟩, ⟨(some 4), none, none, .mov (.tmp 12)⟩])] [0, 1, 6, 10, 11, 12]
abbrev F_morainelaw03_pick : SFunc := ⟨13, (.seq c_morainelaw03_pick_0 (.seq (.seq c_morainelaw03_pick_1 (.cond (.tmp 6) c_morainelaw03_pick_2 .skip)) (.seq c_morainelaw03_pick_3 .ret))), [.tmp 4], false⟩
theorem tf_morainelaw03_pick : transFunc Go.Proofs.Tryz.prog 52 (hintT []) (fpT []) (killT [(0, [4]), (1, [5]), (2, [6, 7, 8, 9]), (3, [0, 1, 6, 10, 11, 12])]) false = some F_morainelaw03_pick := by kernel_rfl
-- morainelaw03.ValOne
abbrev c_morainelaw03_ValOne_0 : SCode := .reg [([3, 4], [⟨(some 3), none, none, .box (.tmp 1)⟩, ⟨(some 4), none, none, .new [(.int .i64 0), (.int .i64 0), (.string ⟨#[]⟩), (.slice none 0 0)]⟩])] [1]
abbrev c_morainelaw03_ValOne_1 : SCode := .reg [([], [⟨(some 6), none, none, .mov (.tmp 0)⟩])] []
abbrev c_morainelaw03_ValOne_2 : SCode := .reg [([], [⟨(some 8), none, none, .bin .eql 3 (.tmp 6) (.val (.int .i64 1))⟩, ⟨(some 7), none, none, .mov (.tmp 8)⟩])] [8]
abbrev c_morainelaw03_ValOne_3 : SCode := .reg [([], [⟨(some 9), none, none, .fldA 1 (.tmp 3)⟩, ⟨(some 10), none, none, .ld false 1 (.tmp 9)⟩, ⟨(some 5), none, none, .mov (.tmp 10)⟩])] [6, 7, 9, 10]
abbrev c_morainelaw03_ValOne_4 : SCode := .reg [([], [⟨(some 11), none, none, .mov (.tmp 5)⟩, ⟨(some 12), none, none, .bin .lss 3 (.tmp 11) (.val (.int .i64 (-1000000000000000)))⟩, ⟨(some 13), none, none, .mov (.tmp 12)⟩, ⟨(some 14), (some (13, false)), none, .mov (.tmp 5)⟩, ⟨(some 15), (some (13, false)), none, .bin .gtr 3 (.tmp 14) (.val (.int .i64 1000000000000000))⟩, ⟨(some 16), none, none, .pick (.tmp 13) (.val (.bool true)) (.tmp 15)⟩])] [11, 12, 13, 14, 15]
abbrev c_morainelaw03_ValOne_5 : SCode := .reg [([2076, 2077, 2078, 2079], [⟨(some 17), none, none, .fldA 1 (.tmp 3)⟩, ⟨(some 18), none, none, .ld false 1 (.tmp 17)⟩, ⟨(some 19), none, none, .call 52 0 [(.tmp 18), (.val (.int .i64 1000000000000001))]⟩, ⟨(some 5), none, none, .mov (.tmp 19)⟩])] [3, 16, 17, 18, 19]
abbrev c_morainelaw03_ValOne_6 : SCode := .reg [([], [⟨(some 20), none, none, .mov (.tmp 0)⟩, ⟨(some 21), none, none, .mov (.tmp 5)⟩, ⟨(some 22), none, none, .build [(.int .i64 0), (.int .i64 0), (.string ⟨#[]⟩), (.slice none 0 0)] [(0, 1, (.tmp 20)), (1, 1, (.tmp 21))]⟩, ⟨none, none, none, .st 4 (.tmp 4) (.tmp 22)⟩])] [0, 3, 5, 16, 20, 21, 22]
abbrev c_morainelaw03_ValOne_7 : SCode := .reg [([], [⟨(some 24), none, none, .bin .eql 3 (.tmp 6) (.val (.int .i64 2))⟩, ⟨(some 23), none, none, .mov (.tmp 24)⟩])] [7, 24]
abbrev c_morainelaw03_ValOne_8 : SCode := .reg [([2112, 2113, 2114, 2115], [⟨(some 25), none, none, .mov (.tmp 0)⟩, ⟨(some 26), none, none, .fldA 2 (.tmp 3)⟩, ⟨(some 27), none, none, .ld false 1 (.tmp 26)⟩, ⟨(some 28), none, none, .call 103 0 [(.tmp 27)]⟩, ⟨(some 29), none, none, .build [(.int .i64 0), (.int .i64 0), (.string ⟨#[]⟩), (.slice none 0 0)] [(0, 1, (.tmp 25)), (2, 1, (.tmp 28))]⟩, ⟨none, none, none, .st 4 (.tmp 4) (.tmp 29)⟩])] [0, 3, 6, 23, 25, 26, 27, 28, 29]
abbrev c_morainelaw03_ValOne_9 : SCode := .reg [([], [⟨(some 31), none, none, .bin .eql 3 (.tmp 6) (.val (.int .i64 3))⟩, ⟨(some 30), none, none, .mov (.tmp 31)⟩])] [23, 31]
abbrev c_morainelaw03_ValOne_10 : SCode := .reg [([], [⟨(some 32), none, none, .bin .eql 3 (.tmp 6) (.val (.int .i64 4))⟩, ⟨(some 30), none, none, .mov (.tmp 32)⟩])] [6, 32]
abbrev c_morainelaw03_ValOne_11 : SCode := .reg [([2144, 2145, 2146, 2147], [⟨(some 33), none, none, .mov (.tmp 0)⟩, ⟨(some 34), none, none, .fldA 1 (.tmp 3)⟩, ⟨(some 35), none, none, .ld false 1 (.tmp 34)⟩, ⟨(some 36), none, none, .call 52 0 [(.tmp 35), (.val (.int .i64 100000))]⟩, ⟨(some 37), none, none, .bin .add 3 (.val (.int .i64 1)) (.tmp 36)⟩, ⟨(some 38), none, none, .build [(.int .i64 0), (.int .i64 0), (.string ⟨#[]⟩), (.slice none 0 0)] [(0, 1, (.tmp 33)), (1, 1, (.tmp 37))]⟩, ⟨none, none, none, .st 4 (.tmp 4) (.tmp 38)⟩])] [0, 3, 6, 30, 33, 34, 35, 36, 37, 38]
abbrev c_morainelaw03_ValOne_12 : SCode := .reg [([], [⟨(some 39), none, none, .build [(.int .i64 0), (.int .i64 0), (.string ⟨#[]⟩), (.slice none 0 0)] []⟩, ⟨none, none, none, .st 4 (.tmp 4) (.tmp 39)⟩])] [0, 3, 6, 30, 39]
abbrev F_morainelaw03_ValOne : SFunc := ⟨40, (.seq c_morainelaw03_ValOne_0 (.seq (.seq c_morainelaw03_ValOne_1 (.block 0 (.seq c_morainelaw03_ValOne_2 (.cond (.tmp 7) (.seq c_morainelaw03_ValOne_3 (.seq (.seq c_morainelaw03_ValOne_4 (.cond (.tmp 16) c_morainelaw03_ValOne_5 .skip)) (.seq c_morainelaw03_ValOne_6 .ret))) (.seq c_morainelaw03_ValOne_7 (.cond (.tmp 23) (.seq c_morainelaw03_ValOne_8 .ret) (.seq (.seq c_morainelaw03_ValOne_9 (.cond (.tmp 30) .skip c_morainelaw03_ValOne_10)) (.cond (.tmp 30) (.seq c_morainelaw03_ValOne_11 .ret) .skip)))))))) (.seq c_morainelaw03_ValOne_12 .ret))), [.cell true 4 4], false⟩
theorem tf_morainelaw03_ValOne : transFunc Go.Proofs.Tryz.prog 53 (hintT [(19, 0), (28, 0), (36, 0)]) (fpT []) (killT [(0, [1]), (2, [8]), (3, [6, 7, 9, 10]), (4, [11, 12, 13, 14, 15]), (5, [3, 16, 17, 18, 19]), (6, [0, 3, 5, 16, 20, 21, 22]), (7, [7, 24]), (8, [0, 3, 6, 23, 25, 26, 27, 28, 29]), (9, [23, 31]), (10, [6, 32]), (11, [0, 3, 6, 30, 33, 34, 35, 36, 37, 38]), (12, [0, 3, 6, 30, 39])]) false = some F_morainelaw03_ValOne := by kernel_rfl
-- val.reader
abbrev c_val_reader_0 : SCode := .reg [([2, 3], [⟨(some 2), none, none, .box (.tmp 0)⟩, ⟨(some 3), none, none, .box (.tmp 1)⟩, ⟨(some 4), none, none, .mov (.val .nilFunc)⟩])] [0, 1, 4]
abbrev c_val_reader_1 : SCode := .reg [([], [⟨(some 5), none, none, .mkf (.func 104) [] [(.tmp 2), (.tmp 3)]⟩, ⟨(some 4), none, none, .mov (.tmp 5)⟩])] [2, 3, 5]
abbrev F_val_reader : SFunc := ⟨6, (.seq c_val_reader_0 (.seq c_val_reader_1 .ret)), [.tmp 4], false⟩
theorem tf_val_reader : transFunc Go.Proofs.Tryz.prog 55 (hintT []) (fpT []) (killT [(0, [0, 1, 4]), (1, [2, 3, 5])]) false = some F_val_reader := by kernel_rfl
-- val.value
abbrev c_val_value_0 : SCode := .reg [([2], [⟨(some 2), none, none, .new [(.int .i64 0), (.int .i64 0), (.string ⟨#[]⟩), (.slice none 0 0)]⟩, ⟨(some 3), none, none, .mov (.val (.int .i64 0))⟩])] [3]
abbrev c_val_value_1 : SCode := .reg [([4], [⟨(some 6), none, none, .build [(.int .i64 0), (.int .i64 0), (.string ⟨#[]⟩), (.slice none 0 0)] []⟩, ⟨(some 4), none, none, .new [(.int .i64 0), (.int .i64 0), (.string ⟨#[]⟩), (.slice none 0 0)]⟩, ⟨none, none, none, .st 4 (.tmp 4) (.tmp 6)⟩, ⟨(some 5), none, none, .mov (.val (.int .i64 0))⟩])] [5, 6]
abbrev c_val_value_2 : SCode := .reg [([2032, 2033, 2034, 2035], [⟨(some 7), none, none, .mov (.tmp 0)⟩, ⟨(some 8), none, none, .call 105 0 [(.tmp 7)]⟩])] [7]
abbrev c_val_value_3 : SCode := .reg [([], [⟨(some 24), none, none, .bin .eql 21 (.tmp 8) (.val (.int .i32 34))⟩, ⟨(some 23), none, none, .mov (.tmp 24)⟩])] [24]
abbrev c_val_value_4 : SCode := .reg [([], [⟨(some 25), none, none, .fldA 0 (.tmp 4)⟩, ⟨none, none, none, .st 1 (.tmp 25) (.val (.int .i64 2))⟩])] [8, 23, 25]
abbrev c_val_value_5 : SCode := .reg [([2112, 2113, 2114, 2115], [⟨(some 27), none, none, .mov (.tmp 0)⟩, ⟨(some 28), none, none, .call 106 0 [(.tmp 27)]⟩, ⟨(some 26), none, none, .mov (.tmp 28)⟩, ⟨(some 29), none, none, .ext (.tmp 26) 0⟩, ⟨(some 30), none, none, .ext (.tmp 26) 1⟩, ⟨(some 31), none, none, .fldA 2 (.tmp 4)⟩, ⟨none, none, none, .st 1 (.tmp 31) (.tmp 29)⟩, ⟨(some 5), none, none, .mov (.tmp 30)⟩])] [0, 26, 27, 28, 29, 30, 31]
abbrev c_val_value_6 : SCode := .reg [([], [⟨(some 33), none, none, .bin .eql 21 (.tmp 8) (.val (.int .i32 64))⟩, ⟨(some 32), none, none, .mov (.tmp 33)⟩])] [23, 33]
abbrev c_val_value_7 : SCode := .reg [([], [⟨(some 34), none, none, .fldA 0 (.tmp 4)⟩, ⟨none, none, none, .st 1 (.tmp 34) (.val (.int .i64 3))⟩])] [8, 32, 34]
abbrev c_val_value_8 : SCode := .reg [([2148, 2149, 2150, 2151], [⟨(some 36), none, none, .mov (.tmp 0)⟩, ⟨(some 37), none, none, .call 107 0 [(.tmp 36)]⟩, ⟨(some 35), none, none, .mov (.tmp 37)⟩, ⟨(some 38), none, none, .ext (.tmp 35) 0⟩, ⟨(some 39), none, none, .ext (.tmp 35) 1⟩, ⟨(some 40), none, none, .fldA 1 (.tmp 4)⟩, ⟨none, none, none, .st 1 (.tmp 40) (.tmp 38)⟩, ⟨(some 5), none, none, .mov (.tmp 39)⟩])] [0, 35, 36, 37, 38, 39, 40]
abbrev c_val_value_9 : SCode := .reg [([], [⟨(some 42), none, none, .bin .eql 21 (.tmp 8) (.val (.int .i32 126))⟩, ⟨(some 41), none, none, .mov (.tmp 42)⟩])] [32, 42]
abbrev c_val_value_10 : SCode := .reg [([], [⟨(some 43), none, none, .fldA 0 (.tmp 4)⟩, ⟨none, none, none, .st 1 (.tmp 43) (.val (.int .i64 4))⟩])] [8, 41, 43]
abbrev c_val_value_11 : SCode := .reg [([2184, 2185, 2186, 2187], [⟨(some 45), none, none, .mov (.tmp 0)⟩, ⟨(some 46), none, none, .call 107 0 [(.tmp 45)]⟩, ⟨(some 44), none, none, .mov (.tmp 46)⟩, ⟨(some 47), none, none, .ext (.tmp 44) 0⟩, ⟨(some 48), none, none, .ext (.tmp 44) 1⟩, ⟨(some 49), none, none, .fldA 1 (.tmp 4)⟩, ⟨none, none, none, .st 1 (.tmp 49) (.tmp 47)⟩, ⟨(some 5), none, none, .mov (.tmp 48)⟩])] [0, 44, 45, 46, 47, 48, 49]
abbrev c_val_value_12 : SCode := .reg [([], [⟨(some 51), none, none, .bin .eql 21 (.tmp 8) (.val (.int .i32 91))⟩, ⟨(some 50), none, none, .mov (.tmp 51)⟩])] [8, 41, 51]
abbrev c_val_value_13 : SCode := .reg [([], [⟨(some 52), none, none, .fldA 0 (.tmp 4)⟩, ⟨none, none, none, .st 1 (.tmp 52) (.val (.int .i64 5))⟩, ⟨(some 5), none, none, .mov (.val (.int .i64 1))⟩])] [0, 50, 52]
abbrev c_val_value_14 : SCode := .reg [([2044, 2045, 2046, 2047], [⟨(some 10), none, none, .mov (.tmp 0)⟩, ⟨(some 11), none, none, .call 108 0 [(.tmp 10), (.val (.int .i64 (-1000000000000000))), (.val (.int .i64 1000000000000000))]⟩, ⟨(some 9), none, none, .mov (.tmp 11)⟩, ⟨(some 12), none, none, .ext (.tmp 9) 0⟩, ⟨(some 13), none, none, .ext (.tmp 9) 1⟩, ⟨(some 14), none, none, .fldA 1 (.tmp 4)⟩, ⟨none, none, none, .st 1 (.tmp 14) (.tmp 12)⟩, ⟨(some 5), none, none, .mov (.tmp 13)⟩])] [9, 10, 11, 12, 13, 14, 50]
abbrev c_val_value_15 : SCode := .reg [([], [⟨(some 15), none, none, .mov (.tmp 5)⟩, ⟨(some 16), none, none, .bin .eql 3 (.tmp 15) (.val (.int .i64 0))⟩])] [15]
abbrev c_val_value_16 : SCode := .reg [([2068, 2069, 2070, 2071, 2076, 2077, 2078, 2079], [⟨(some 17), none, none, .call 109 0 [(.val (.int .i32 45))]⟩, ⟨(some 18), none, none, .mov (.tmp 0)⟩, ⟨(some 19), none, none, .callv (.tmp 17) 1 [(.tmp 18)]⟩, ⟨(some 20), none, none, .ext (.tmp 19) 0⟩, ⟨(some 21), none, none, .ext (.tmp 19) 1⟩, ⟨none, none, none, .st 4 (.tmp 2) (.tmp 20)⟩, ⟨(some 3), none, none, .mov (.tmp 21)⟩])] [0, 4, 5, 16, 17, 18, 19, 20, 21]
abbrev c_val_value_17 : SCode := .reg [([], [⟨(some 22), none, none, .fldA 0 (.tmp 4)⟩, ⟨none, none, none, .st 1 (.tmp 22) (.val (.int .i64 1))⟩])] [0, 3, 16, 22]
abbrev c_val_value_18 : SCode := .reg [([], [⟨(some 53), none, none, .ld true 4 (.tmp 4)⟩, ⟨(some 54), none, none, .mov (.tmp 5)⟩, ⟨none, none, none, .st 4 (.tmp 2) (.tmp 53)⟩, ⟨(some 3), none, none, .mov (.tmp 54)⟩])] [4, 5, 53, 54]
abbrev F_val_value : SFunc := ⟨55, (.seq c_val_value_0 (.seq c_val_value_1 (.seq (.seq c_val_value_2 (.block 0 (.seq c_val_value_3 (.cond (.tmp 23) (.seq c_val_value_4 c_val_value_5) (.seq c_val_value_6 (.cond (.tmp 32) (.seq c_val_value_7 c_val_value_8) (.seq c_val_value_9 (.cond (.tmp 41) (.seq c_val_value_10 c_val_value_11) (.seq c_val_value_12 (.cond (.tmp 50) c_val_value_13 (.seq c_val_value_14 (.seq (.seq c_val_value_15 (.cond (.tmp 16) (.seq c_val_value_16 .ret) .skip)) c_val_value_17)))))))))))) (.seq c_val_value_18 .ret)))), [.cell true 4 2, .tmp 3], false⟩
theorem tf_val_value : transFunc Go.Proofs.Tryz.prog 56 (hintT [(8, 0), (28, 0), (37, 0), (46, 0), (11, 0), (17, 0), (19, 1)]) (fpT []) (killT [(0, [3]), (1, [5, 6]), (2, [7]), (7, [24]), (8, [8, 23, 25]), (9, [0, 26, 27, 28, 29, 30, 31]), (10, [23, 33]), (11, [8, 32, 34]), (12, [0, 35, 36, 37, 38, 39, 40]), (13, [32, 42]), (14, [8, 41, 43]), (15, [0, 44, 45, 46, 47, 48, 49]), (16, [8, 41, 51]), (17, [0, 50, 52]), (3, [9, 10, 11, 12, 13, 14, 50]), (4, [15]), (5, [0, 4, 5, 16, 17, 18, 19, 20, 21]), (6, [0, 3, 16, 22]), (18, [4, 5, 53, 54])]) false = some F_val_value := by kernel_rfl
-- val.items
abbrev c_val_items_0 : SCode := .reg [([], [⟨(some 2), none, none, .mov (.val (.slice none 0 0))⟩, ⟨(some 3), none, none, .mov (.val (.int .i64 0))⟩, ⟨(some 4), none, none, .mov (.val (.bool false))⟩])] [2, 3, 4]
abbrev c_val_items_1 : SCode := .reg [([], [⟨(some 5), none, none, .mov (.val (.slice none 0 0))⟩])] []
abbrev c_val_items_2 : SCode := .reg [([2068, 2069, 2070, 2071, 2072, 2073, 2074, 2075, 6], [⟨(some 16), none, none, .mov (.tmp 0)⟩, ⟨(some 17), none, none, .call 109 0 [(.val (.int .i32 93))]⟩, ⟨(some 18), none, none, .callv (.tmp 16) 1 [(.tmp 17)]⟩, ⟨(some 15), none, none, .mov (.tmp 18)⟩, ⟨(some 19), none, none, .ext (.tmp 15) 0⟩, ⟨(some 20), none, none, .ext (.tmp 15) 1⟩, ⟨(some 21), none, none, .ext (.tmp 15) 2⟩, ⟨(some 6), none, none, .new [(.int .i64 0), (.int .i64 0), (.string ⟨#[]⟩), (.slice none 0 0)]⟩, ⟨none, none, none, .st 4 (.tmp 6) (.tmp 19)⟩, ⟨(some 7), none, none, .mov (.tmp 20)⟩, ⟨(some 8), none, none, .mov (.tmp 21)⟩])] [6, 15, 16, 17, 18, 19, 20, 21]
abbrev c_val_items_3 : SCode := .reg [([], [⟨(some 22), none, none, .mov (.tmp 8)⟩])] [8]
abbrev c_val_items_4 : SCode := .reg [([], [⟨(some 23), none, none, .mov (.tmp 5)⟩, ⟨(some 24), none, none, .mov (.tmp 7)⟩, ⟨(some 2), none, none, .mov (.tmp 23)⟩, ⟨(some 3), none, none, .mov (.tmp 24)⟩, ⟨(some 4), none, none, .mov (.val (.bool true))⟩])] [0, 5, 7, 22, 23, 24]
abbrev c_val_items_5 : SCode := .reg [([], [⟨(some 25), none, none, .mov (.tmp 5)⟩, ⟨(some 26), none, none, .len (.tmp 25)⟩, ⟨(some 27), none, none, .bin .gtr 3 (.tmp 26) (.val (.int .i64 0))⟩])] [2, 3, 4, 7, 22, 25, 26]
abbrev c_val_items_6 : SCode := .reg [([2120, 2121, 2122, 2123, 2124, 2125, 2126, 2127, 9], [⟨(some 29), none, none, .mov (.tmp 0)⟩, ⟨(some 30), none, none, .call 109 0 [(.val (.int .i32 32))]⟩, ⟨(some 31), none, none, .callv (.tmp 29) 1 [(.tmp 30)]⟩, ⟨(some 28), none, none, .mov (.tmp 31)⟩, ⟨(some 32), none, none, .ext (.tmp 28) 0⟩, ⟨(some 33), none, none, .ext (.tmp 28) 1⟩, ⟨(some 34), none, none, .ext (.tmp 28) 2⟩, ⟨(some 9), none, none, .new [(.int .i64 0), (.int .i64 0), (.string ⟨#[]⟩), (.slice none 0 0)]⟩, ⟨none, none, none, .st 4 (.tmp 9) (.tmp 32)⟩, ⟨(some 10), none, none, .mov (.tmp 33)⟩, ⟨(some 11), none, none, .mov (.tmp 34)⟩])] [9, 10, 27, 28, 29, 30, 31, 32, 33, 34]
abbrev c_val_items_7 : SCode := .reg [([], [⟨(some 35), none, none, .mov (.tmp 11)⟩, ⟨(some 36), none, none, .un .not (.tmp 35)⟩])] [11, 35]
abbrev c_val_items_8 : SCode := .reg [([], [⟨(some 2), none, none, .mov (.val (.slice none 0 0))⟩, ⟨(some 3), none, none, .mov (.val (.int .i64 0))⟩, ⟨(some 4), none, none, .mov (.val (.bool false))⟩])] [0, 5, 36]
abbrev c_val_items_9 : SCode := .reg [([2156, 2157, 2158, 2159, 12], [⟨(some 38), none, none, .mov (.tmp 0)⟩, ⟨(some 39), none, none, .callv (.tmp 38) 1 [(.val (.func (.func 56) #[] #[]))]⟩, ⟨(some 37), none, none, .mov (.tmp 39)⟩, ⟨(some 40), none, none, .ext (.tmp 37) 0⟩, ⟨(some 41), none, none, .ext (.tmp 37) 1⟩, ⟨(some 42), none, none, .ext (.tmp 37) 2⟩, ⟨(some 12), none, none, .new [(.int .i64 0), (.int .i64 0), (.string ⟨#[]⟩), (.slice none 0 0)]⟩, ⟨none, none, none, .st 4 (.tmp 12) (.tmp 40)⟩, ⟨(some 13), none, none, .mov (.tmp 41)⟩, ⟨(some 14), none, none, .mov (.tmp 42)⟩])] [2, 3, 4, 13, 27, 36, 37, 38, 39, 40, 41, 42]
abbrev c_val_items_10 : SCode := .reg [([], [⟨(some 43), none, none, .mov (.tmp 14)⟩, ⟨(some 44), none, none, .un .not (.tmp 43)⟩, ⟨(some 45), none, none, .mov (.tmp 44)⟩, ⟨(some 46), (some (45, false)), none, .fldA 0 (.tmp 12)⟩, ⟨(some 47), (some (45, false)), none, .ld false 1 (.tmp 46)⟩, ⟨(some 48), (some (45, false)), none, .bin .eql 3 (.tmp 47) (.val (.int .i64 5))⟩, ⟨(some 49), none, none, .pick (.tmp 45) (.val (.bool true)) (.tmp 48)⟩, ⟨(some 50), none, none, .mov (.tmp 49)⟩, ⟨(some 51), (some (50, false)), none, .mov (.tmp 5)⟩, ⟨(some 52), (some (50, false)), none, .len (.tmp 51)⟩, ⟨(some 53), (some (50, false)), none, .bin .eql 3 (.tmp 52) (.val (.int .i64 12))⟩, ⟨(some 54), none, none, .pick (.tmp 50) (.val (.bool true)) (.tmp 53)⟩])] [14, 43, 44, 45, 46, 47, 48, 49, 50, 51, 52, 53]
abbrev c_val_items_11 : SCode := .reg [([], [⟨(some 2), none, none, .mov (.val (.slice none 0 0))⟩, ⟨(some 3), none, none, .mov (.val (.int .i64 0))⟩, ⟨(some 4), none, none, .mov (.val (.bool false))⟩])] [0, 5, 12, 54]
abbrev c_val_items_12 : SCode := .reg [([], [⟨(some 55), none, none, .mov (.tmp 5)⟩, ⟨(some 56), none, none, .ld true 4 (.tmp 12)⟩, ⟨(some 57), none, none, .bsl 4 [(.tmp 56)]⟩, ⟨(some 58), none, none, .app 42 4 56 (.tmp 55) (.tmp 57)⟩, ⟨(some 5), none, none, .mov (.tmp 58)⟩]), ([58], [⟨(some 55), none, none, .mov (.tmp 5)⟩, ⟨(some 56), none, none, .ld true 4 (.tmp 12)⟩, ⟨(some 57), none, none, .bsl 4 [(.tmp 56)]⟩, ⟨(some 58), none, none, .appN 42 4 56 (.tmp 55) (.tmp 57)⟩, ⟨(some 5), none, none, .mov (.tmp 58)⟩])] [2, 3, 4, 12, 54, 55, 56, 57, 58]
abbrev c_val_items_13 : SCode := (.block 1 (.seq (.seq c_val_items_2 (.seq c_val_items_3 (.cond (.tmp 22) (.seq c_val_items_4 .ret) .skip))) (.seq (.seq c_val_items_5 (.cond (.tmp 27) (.seq c_val_items_6 (.seq c_val_items_7 (.cond (.tmp 36) (.seq c_val_items_8 .ret) .skip))) .skip)) (.seq c_val_items_9 (.seq (.seq c_val_items_10 (.cond (.tmp 54) (.seq c_val_items_11 .ret) .skip)) c_val_items_12)))))
abbrev F_val_items : SFunc := ⟨59, (.seq c_val_items_0 (.seq c_val_items_1 (.block 0 (.loop c_val_items_13)))), [.tmp 2, .tmp 3, .tmp 4], false⟩
theorem tf_val_items : transFunc Go.Proofs.Tryz.prog 57 (hintT [(17, 0), (18, 1), (30, 0), (31, 1), (39, 1), (57, 0)]) (fpT []) (killT [(0, [2, 3, 4]), (2, [6, 15, 16, 17, 18, 19, 20, 21]), (3, [8]), (4, [0, 5, 7, 22, 23, 24]), (5, [2, 3, 4, 7, 22, 25, 26]), (6, [9, 10, 27, 28, 29, 30, 31, 32, 33, 34]), (7, [11, 35]), (8, [0, 5, 36]), (9, [2, 3, 4, 13, 27, 36, 37, 38, 39, 40, 41, 42]), (10, [14, 43, 44, 45, 46, 47, 48, 49, 50, 51, 52, 53]), (11, [0, 5, 12, 54]), (12, [2, 3, 4, 12, 54, 55, 56, 57, 58])]) false = some F_val_items := by kernel_rfl
-- val.lay
abbrev c_val_lay_0 : SCode := .reg [([3], [⟨(some 3), none, none, .box (.tmp 1)⟩, ⟨(some 4), none, none, .mov (.val (.slice none 0 0))⟩])] [1, 4]
abbrev c_val_lay_1 : SCode := .reg [([2048, 2049, 2050, 2051], [⟨(some 9), none, none, .mov (.tmp 0)⟩, ⟨(some 10), none, none, .fldA 0 (.tmp 3)⟩, ⟨(some 11), none, none, .ld false 1 (.tmp 10)⟩, ⟨(some 12), none, none, .call 110 0 [(.tmp 11)]⟩, ⟨(some 13), none, none, .appS 5 1 (.tmp 9) (.tmp 12)⟩, ⟨(some 0), none, none, .mov (.tmp 13)⟩]), ([2048, 2049, 2050, 2051, 13], [⟨(some 9), none, none, .mov (.tmp 0)⟩, ⟨(some 10), none, none, .fldA 0 (.tmp 3)⟩, ⟨(some 11), none, none, .ld false 1 (.tmp 10)⟩, ⟨(some 12), none, none, .call 110 0 [(.tmp 11)]⟩, ⟨(some 13), none, none, .appNS 5 1 (.tmp 9) (.tmp 12)⟩, ⟨(some 0), none, none, .mov (.tmp 13)⟩])] [9, 10, 11, 12, 13]
abbrev c_val_lay_2 : SCode := .reg [([], [⟨(some 14), none, none, .fldA 0 (.tmp 3)⟩, ⟨(some 15), none, none, .ld false 1 (.tmp 14)⟩])] [14]
abbrev c_val_lay_3 : SCode := .reg [([], [⟨(some 17), none, none, .bin .eql 3 (.tmp 15) (.val (.int .i64 1))⟩, ⟨(some 16), none, none, .mov (.tmp 17)⟩])] [17]
abbrev c_val_lay_4 : SCode := .reg [([], [⟨(some 18), none, none, .bin .eql 3 (.tmp 15) (.val (.int .i64 3))⟩, ⟨(some 16), none, none, .mov (.tmp 18)⟩])] [18]
abbrev c_val_lay_5 : SCode := .reg [([], [⟨(some 19), none, none, .bin .eql 3 (.tmp 15) (.val (.int .i64 4))⟩, ⟨(some 16), none, none, .mov (.tmp 19)⟩])] [19]
abbrev c_val_lay_6 : SCode := .reg [([2092, 2093, 2094, 2095], [⟨(some 20), none, none, .mov (.tmp 0)⟩, ⟨(some 21), none, none, .fldA 1 (.tmp 3)⟩, ⟨(some 22), none, none, .ld false 1 (.tmp 21)⟩, ⟨(some 23), none, none, .call 110 0 [(.tmp 22)]⟩, ⟨(some 24), none, none, .appS 5 1 (.tmp 20) (.tmp 23)⟩, ⟨(some 0), none, none, .mov (.tmp 24)⟩]), ([2092, 2093, 2094, 2095, 24], [⟨(some 20), none, none, .mov (.tmp 0)⟩, ⟨(some 21), none, none, .fldA 1 (.tmp 3)⟩, ⟨(some 22), none, none, .ld false 1 (.tmp 21)⟩, ⟨(some 23), none, none, .call 110 0 [(.tmp 22)]⟩, ⟨(some 24), none, none, .appNS 5 1 (.tmp 20) (.tmp 23)⟩, ⟨(some 0), none, none, .mov (.tmp 24)⟩])] [3, 15, 16, 20, 21, 22, 23, 24]
abbrev c_val_lay_7 : SCode := .reg [([], [⟨(some 26), none, none, .bin .eql 3 (.tmp 15) (.val (.int .i64 2))⟩, ⟨(some 25), none, none, .mov (.tmp 26)⟩])] [16, 26]
abbrev c_val_lay_8 : SCode := .reg [([2120, 2121, 2122, 2123], [⟨(some 28), none, none, .fldA 2 (.tmp 3)⟩, ⟨(some 29), none, none, .ld false 1 (.tmp 28)⟩, ⟨(some 30), none, none, .call 111 0 [(.tmp 29)]⟩, ⟨(some 27), none, none, .mov (.tmp 30)⟩, ⟨(some 31), none, none, .ext (.tmp 27) 0⟩, ⟨(some 32), none, none, .ext (.tmp 27) 1⟩, ⟨(some 5), none, none, .mov (.tmp 31)⟩, ⟨(some 6), none, none, .mov (.tmp 32)⟩])] [3, 6, 15, 25, 27, 28, 29, 30, 31, 32]
abbrev c_val_lay_9 : SCode := .reg [([], [⟨(some 33), none, none, .mov (.tmp 0)⟩, ⟨(some 34), none, none, .mov (.tmp 5)⟩, ⟨(some 35), none, none, .appS 5 1 (.tmp 33) (.tmp 34)⟩, ⟨(some 0), none, none, .mov (.tmp 35)⟩]), ([35], [⟨(some 33), none, none, .mov (.tmp 0)⟩, ⟨(some 34), none, none, .mov (.tmp 5)⟩, ⟨(some 35), none, none, .appNS 5 1 (.tmp 33) (.tmp 34)⟩, ⟨(some 0), none, none, .mov (.tmp 35)⟩])] [5, 33, 34, 35]
abbrev c_val_lay_10 : SCode := .reg [([], [⟨(some 37), none, none, .bin .eql 3 (.tmp 15) (.val (.int .i64 5))⟩, ⟨(some 36), none, none, .mov (.tmp 37)⟩])] [15, 25, 37]
abbrev c_val_lay_11 : SCode := .reg [([2168, 2169, 2170, 2171], [⟨(some 38), none, none, .mov (.tmp 0)⟩, ⟨(some 39), none, none, .fldA 3 (.tmp 3)⟩, ⟨(some 40), none, none, .ld false 1 (.tmp 39)⟩, ⟨(some 41), none, none, .len (.tmp 40)⟩, ⟨(some 42), none, none, .call 110 0 [(.tmp 41)]⟩, ⟨(some 43), none, none, .appS 5 1 (.tmp 38) (.tmp 42)⟩, ⟨(some 0), none, none, .mov (.tmp 43)⟩]), ([2168, 2169, 2170, 2171, 43], [⟨(some 38), none, none, .mov (.tmp 0)⟩, ⟨(some 39), none, none, .fldA 3 (.tmp 3)⟩, ⟨(some 40), none, none, .ld false 1 (.tmp 39)⟩, ⟨(some 41), none, none, .len (.tmp 40)⟩, ⟨(some 42), none, none, .call 110 0 [(.tmp 41)]⟩, ⟨(some 43), none, none, .appNS 5 1 (.tmp 38) (.tmp 42)⟩, ⟨(some 0), none, none, .mov (.tmp 43)⟩])] [36, 38, 39, 40, 41, 42, 43]
abbrev c_val_lay_12 : SCode := .reg [([], [⟨(some 44), none, none, .fldA 3 (.tmp 3)⟩, ⟨(some 45), none, none, .ld false 1 (.tmp 44)⟩, ⟨(some 46), none, none, .len (.tmp 45)⟩, ⟨(some 47), none, none, .mov (.val (.int .i64 0))⟩])] [3, 44]
abbrev c_val_lay_13 : SCode := .reg [([], [⟨(some 48), none, none, .bin .lss 3 (.tmp 47) (.tmp 46)⟩])] []
abbrev c_val_lay_14 : SCode := .reg [([8], [⟨(some 49), none, none, .idxA 4 (.tmp 45) (.tmp 47)⟩, ⟨(some 50), none, none, .ld true 4 (.tmp 49)⟩, ⟨(some 8), none, none, .new [(.int .i64 0), (.int .i64 0), (.string ⟨#[]⟩), (.slice none 0 0)]⟩, ⟨none, none, none, .st 4 (.tmp 8) (.tmp 50)⟩])] [48, 49, 50]
abbrev c_val_lay_15 : SCode := .reg [([2212, 2213, 2214, 2215], [⟨(some 51), none, none, .mov (.tmp 0)⟩, ⟨(some 52), none, none, .ld true 4 (.tmp 8)⟩, ⟨(some 53), none, none, .call 58 2 [(.tmp 51), (.tmp 52)]⟩, ⟨(some 0), none, none, .mov (.tmp 53)⟩])] [8, 51, 52, 53]
abbrev c_val_lay_16 : SCode := .reg [([], [⟨(some 54), none, none, .bin .add 3 (.tmp 47) (.val (.int .i64 1))⟩, ⟨(some 47), none, none, .mov (.tmp 54)⟩])] [54]
abbrev c_val_lay_17 : SCode := (.seq c_val_lay_13 (.seq (.cond (.tmp 48) .skip (.exit 1)) (.seq (.block 2 (.seq c_val_lay_14 c_val_lay_15)) c_val_lay_16)))
abbrev c_val_lay_18 : SCode := .reg [([], [⟨(some 55), none, none, .mov (.tmp 0)⟩, ⟨(some 4), none, none, .mov (.tmp 55)⟩])] [0, 3, 36, 45, 46, 47, 55]
abbrev F_val_lay : SFunc := ⟨56, (.seq c_val_lay_0 (.seq c_val_lay_1 (.seq (.seq c_val_lay_2 (.block 0 (.seq (.seq c_val_lay_3 (.cond (.tmp 16) .skip (.seq c_val_lay_4 (.cond (.tmp 16) .skip c_val_lay_5)))) (.cond (.tmp 16) c_val_lay_6 (.seq c_val_lay_7 (.cond (.tmp 25) (.seq c_val_lay_8 c_val_lay_9) (.seq c_val_lay_10 (.cond (.tmp 36) (.seq c_val_lay_11 (.seq c_val_lay_12 (.block 1 (.loop c_val_lay_17)))) .skip)))))))) (.seq c_val_lay_18 .ret)))), [.tmp 4], true⟩
theorem tf_val_lay : transFunc Go.Proofs.Tryz.prog 58 (hintT [(12, 0), (23, 0), (30, 0), (42, 0), (53, 2)]) (fpT []) (killT [(0, [1, 4]), (1, [9, 10, 11, 12, 13]), (2, [14]), (3, [17]), (4, [18]), (5, [19]), (6, [3, 15, 16, 20, 21, 22, 23, 24]), (7, [16, 26]), (8, [3, 6, 15, 25, 27, 28, 29, 30, 31, 32]), (9, [5, 33, 34, 35]), (10, [15, 25, 37]), (11, [36, 38, 39, 40, 41, 42, 43]), (12, [3, 44]), (14, [48, 49, 50]), (15, [8, 51, 52, 53]), (16, [54]), (17, [0, 3, 36, 45, 46, 47, 55])]) true = some F_val_lay := by kernel_rfl
-- (*val.decoder).value
abbrev c___val_decoder__value_0 : SCode := .reg [([4], [⟨(some 4), none, none, .new [(.int .i64 0), (.int .i64 0), (.string ⟨#[]⟩), (.slice none 0 0)]⟩, ⟨(some 5), none, none, .mov (.val (.int .i64 0))⟩])] [5]
abbrev c___val_decoder__value_1 : SCode := .reg [([2048, 2049, 2050, 2051], [⟨(some 10), none, none, .mov (.tmp 0)⟩, ⟨(some 11), none, none, .mov (.tmp 1)⟩, ⟨(some 12), none, none, .call 112 1 [(.tmp 10), (.val (.int .i64 0)), (.tmp 11)]⟩, ⟨(some 9), none, none, .mov (.tmp 12)⟩, ⟨(some 13), none, none, .ext (.tmp 9) 0⟩, ⟨(some 14), none, none, .ext (.tmp 9) 1⟩, ⟨(some 6), none, none, .mov (.tmp 13)⟩, ⟨(some 7), none, none, .mov (.tmp 14)⟩])] [1, 9, 10, 11, 12, 13, 14]
abbrev c___val_decoder__value_2 : SCode := .reg [([], [⟨(some 15), none, none, .mov (.tmp 7)⟩, ⟨(some 16), none, none, .bin .neq 28 (.tmp 15) (.val (.int .i64 0))⟩])] [15]
abbrev c___val_decoder__value_3 : SCode := .reg [([], [⟨(some 17), none, none, .build [(.int .i64 0), (.int .i64 0), (.string ⟨#[]⟩), (.slice none 0 0)] []⟩, ⟨(some 18), none, none, .mov (.tmp 7)⟩, ⟨none, none, none, .st 4 (.tmp 4) (.tmp 17)⟩, ⟨(some 5), none, none, .mov (.tmp 18)⟩])] [0, 6, 7, 16, 17, 18]
abbrev c___val_decoder__value_4 : SCode := .reg [([8], [⟨(some 19), none, none, .mov (.tmp 6)⟩, ⟨(some 20), none, none, .build [(.int .i64 0), (.int .i64 0), (.string ⟨#[]⟩), (.slice none 0 0)] [(0, 1, (.tmp 19))]⟩, ⟨(some 8), none, none, .new [(.int .i64 0), (.int .i64 0), (.string ⟨#[]⟩), (.slice none 0 0)]⟩, ⟨none, none, none, .st 4 (.tmp 8) (.tmp 20)⟩])] [5, 16, 19, 20]
abbrev c___val_decoder__value_5 : SCode := .reg [([], [⟨(some 21), none, none, .mov (.tmp 6)⟩])] [6]
abbrev c___val_decoder__value_6 : SCode := .reg [([], [⟨(some 23), none, none, .bin .eql 3 (.tmp 21) (.val (.int .i64 1))⟩, ⟨(some 22), none, none, .mov (.tmp 23)⟩])] [23]
abbrev c___val_decoder__value_7 : SCode := .reg [([2104, 2105, 2106, 2107], [⟨(some 25), none, none, .mov (.tmp 0)⟩, ⟨(some 26), none, none, .call 112 1 [(.tmp 25), (.val (.int .i64 (-1000000000000000))), (.val (.int .i64 1000000000000000))]⟩, ⟨(some 24), none, none, .mov (.tmp 26)⟩, ⟨(some 27), none, none, .ext (.tmp 24) 0⟩, ⟨(some 28), none, none, .ext (.tmp 24) 1⟩, ⟨(some 29), none, none, .fldA 1 (.tmp 8)⟩, ⟨none, none, none, .st 1 (.tmp 29) (.tmp 27)⟩, ⟨(some 7), none, none, .mov (.tmp 28)⟩])] [0, 21, 22, 24, 25, 26, 27, 28, 29]
abbrev c___val_decoder__value_8 : SCode := .reg [([], [⟨(some 31), none, none, .bin .eql 3 (.tmp 21) (.val (.int .i64 2))⟩, ⟨(some 30), none, none, .mov (.tmp 31)⟩])] [22, 31]
abbrev c___val_decoder__value_9 : SCode := .reg [([2136, 2137, 2138, 2139], [⟨(some 33), none, none, .mov (.tmp 0)⟩, ⟨(some 34), none, none, .call 113 1 [(.tmp 33)]⟩, ⟨(some 32), none, none, .mov (.tmp 34)⟩, ⟨(some 35), none, none, .ext (.tmp 32) 0⟩, ⟨(some 36), none, none, .ext (.tmp 32) 1⟩, ⟨(some 37), none, none, .fldA 2 (.tmp 8)⟩, ⟨none, none, none, .st 1 (.tmp 37) (.tmp 35)⟩, ⟨(some 7), none, none, .mov (.tmp 36)⟩])] [0, 21, 30, 32, 33, 34, 35, 36, 37]
abbrev c___val_decoder__value_10 : SCode := .reg [([], [⟨(some 39), none, none, .bin .eql 3 (.tmp 21) (.val (.int .i64 3))⟩, ⟨(some 38), none, none, .mov (.tmp 39)⟩])] [30, 39]
abbrev c___val_decoder__value_11 : SCode := .reg [([], [⟨(some 40), none, none, .bin .eql 3 (.tmp 21) (.val (.int .i64 4))⟩, ⟨(some 38), none, none, .mov (.tmp 40)⟩])] [40]
abbrev c___val_decoder__value_12 : SCode := .reg [([2172, 2173, 2174, 2175], [⟨(some 42), none, none, .mov (.tmp 0)⟩, ⟨(some 43), none, none, .call 112 1 [(.tmp 42), (.val (.int .i64 (-20))), (.val (.int .i64 100000))]⟩, ⟨(some 41), none, none, .mov (.tmp 43)⟩, ⟨(some 44), none, none, .ext (.tmp 41) 0⟩, ⟨(some 45), none, none, .ext (.tmp 41) 1⟩, ⟨(some 46), none, none, .fldA 1 (.tmp 8)⟩, ⟨none, none, none, .st 1 (.tmp 46) (.tmp 44)⟩, ⟨(some 7), none, none, .mov (.tmp 45)⟩])] [0, 21, 38, 41, 42, 43, 44, 45, 46]
abbrev c___val_decoder__value_13 : SCode := .reg [([], [⟨(some 47), none, none, .mov (.tmp 7)⟩, ⟨(some 48), none, none, .bin .eql 28 (.tmp 47) (.val (.int .i64 0))⟩, ⟨(some 49), none, none, .mov (.tmp 48)⟩, ⟨(some 50), (some (49, true)), none, .fldA 1 (.tmp 8)⟩, ⟨(some 51), (some (49, true)), none, .ld false 1 (.tmp 50)⟩, ⟨(some 52), (some (49, true)), none, .bin .eql 3 (.tmp 51) (.val (.int .i64 0))⟩, ⟨(some 53), none, none, .pick (.tmp 49) (.tmp 52) (.val (.bool false))⟩])] [47, 48, 49, 50, 51, 52]
abbrev c___val_decoder__value_14 : SCode := .reg [([], [⟨(some 7), none, none, .mov (.val (.int .i64 30))⟩])] [53]
abbrev c___val_decoder__value_15 : SCode := .reg [([], [⟨(some 55), none, none, .bin .eql 3 (.tmp 21) (.val (.int .i64 5))⟩, ⟨(some 54), none, none, .mov (.tmp 55)⟩])] [21, 38, 55]
abbrev c___val_decoder__value_16 : SCode := .reg [([2232, 2233, 2234, 2235], [⟨(some 57), none, none, .mov (.tmp 0)⟩, ⟨(some 58), none, none, .call 114 1 [(.tmp 57)]⟩, ⟨(some 56), none, none, .mov (.tmp 58)⟩, ⟨(some 59), none, none, .ext (.tmp 56) 0⟩, ⟨(some 60), none, none, .ext (.tmp 56) 1⟩, ⟨(some 61), none, none, .fldA 3 (.tmp 8)⟩, ⟨none, none, none, .st 1 (.tmp 61) (.tmp 59)⟩, ⟨(some 7), none, none, .mov (.tmp 60)⟩])] [0, 54, 56, 57, 58, 59, 60, 61]
abbrev c___val_decoder__value_17 : SCode := .reg [([], [⟨(some 62), none, none, .mov (.tmp 7)⟩, ⟨(some 63), none, none, .bin .neq 28 (.tmp 62) (.val (.int .i64 0))⟩])] [0, 53, 54, 62]
abbrev c___val_decoder__value_18 : SCode := .reg [([], [⟨(some 64), none, none, .build [(.int .i64 0), (.int .i64 0), (.string ⟨#[]⟩), (.slice none 0 0)] []⟩, ⟨(some 65), none, none, .mov (.tmp 7)⟩, ⟨none, none, none, .st 4 (.tmp 4) (.tmp 64)⟩, ⟨(some 5), none, none, .mov (.tmp 65)⟩])] [7, 8, 63, 64, 65]
abbrev c___val_decoder__value_19 : SCode := .reg [([], [⟨(some 66), none, none, .ld true 4 (.tmp 8)⟩, ⟨none, none, none, .st 4 (.tmp 4) (.tmp 66)⟩, ⟨(some 5), none, none, .mov (.val (.int .i64 0))⟩])] [7, 8, 63, 66]
abbrev F___val_decoder__value : SFunc := ⟨67, (.seq c___val_decoder__value_0 (.seq c___val_decoder__value_1 (.seq (.seq c___val_decoder__value_2 (.cond (.tmp 16) (.seq c___val_decoder__value_3 .ret) .skip)) (.seq c___val_decoder__value_4 (.seq (.seq c___val_decoder__value_5 (.block 0 (.seq c___val_decoder__value_6 (.cond (.tmp 22) c___val_decoder__value_7 (.seq c___val_decoder__value_8 (.cond (.tmp 30) c___val_decoder__value_9 (.seq (.seq c___val_decoder__value_10 (.cond (.tmp 38) .skip c___val_decoder__value_11)) (.cond (.tmp 38) (.seq c___val_decoder__value_12 (.seq c___val_decoder__value_13 (.cond (.tmp 53) c___val_decoder__value_14 .skip))) (.seq c___val_decoder__value_15 (.cond (.tmp 54) c___val_decoder__value_16 .skip)))))))))) (.seq (.seq c___val_decoder__value_17 (.cond (.tmp 63) (.seq c___val_decoder__value_18 .ret) .skip)) (.seq c___val_decoder__value_19 .ret))))))), [.cell true 4 4, .tmp 5], false⟩
theorem tf___val_decoder__value : transFunc Go.Proofs.Tryz.prog 59 (hintT [(12, 1), (26, 1), (34, 1), (43, 1), (58, 1)]) (fpT []) (killT [(0, [5]), (1, [1, 9, 10, 11, 12, 13, 14]), (2, [15]), (3, [0, 6, 7, 16, 17, 18]), (4, [5, 16, 19, 20]), (5, [6]), (6, [23]), (7, [0, 21, 22, 24, 25, 26, 27, 28, 29]), (8, [22, 31]), (9, [0, 21, 30, 32, 33, 34, 35, 36, 37]), (10, [30, 39]), (11, [40]), (12, [0, 21, 38, 41, 42, 43, 44, 45, 46]), (13, [47, 48, 49, 50, 51, 52]), (14, [53]), (15, [21, 38, 55]), (16, [0, 54, 56, 57, 58, 59, 60, 61]), (17, [0, 53, 54, 62]), (18, [7, 8, 63, 64, 65]), (19, [7, 8, 63, 66])]) false = some F___val_decoder__value := by kernel_rfl
-- val.bare
abbrev c_val_bare_0 : SCode := .reg [([1], [⟨(some 1), none, none, .box (.tmp 0)⟩, ⟨(some 2), none, none, .mov (.val (.bool false))⟩])] [0, 2]
abbrev c_val_bare_1 : SCode := .reg [([], [⟨(some 3), none, none, .fldA 2 (.tmp 1)⟩, ⟨(some 4), none, none, .ld false 1 (.tmp 3)⟩, ⟨(some 5), none, none, .bin .eql 9 (.tmp 4) (.val (.string ⟨#[]⟩))⟩, ⟨(some 6), none, none, .mov (.tmp 5)⟩, ⟨(some 7), (some (6, true)), none, .fldA 3 (.tmp 1)⟩, ⟨(some 8), (some (6, true)), none, .ld false 1 (.tmp 7)⟩, ⟨(some 9), (some (6, true)), none, .len (.tmp 8)⟩, ⟨(some 10), (some (6, true)), none, .bin .eql 3 (.tmp 9) (.val (.int .i64 0))⟩, ⟨(some 11), none, none, .pick (.tmp 6) (.tmp 10) (.val (.bool false))⟩, ⟨(some 2), none, none, .mov (.tmp 11)⟩])] [1, 3, 4, 5, 6, 7, 8, 9, 10, 11]
abbrev F_val_bare : SFunc := ⟨12, (.seq c_val_bare_0 (.seq c_val_bare_1 .ret)), [.tmp 2], false⟩
theorem tf_val_bare : transFunc Go.Proofs.Tryz.prog 63 (hintT []) (fpT []) (killT [(0, [0, 2]), (1, [1, 3, 4, 5, 6, 7, 8, 9, 10, 11])]) false = some F_val_bare := by kernel_rfl
-- val.rightText
abbrev c_val_rightText_0 : SCode := .reg [([], [⟨(some 2), none, none, .mov (.val (.bool false))⟩])] [2]
abbrev c_val_rightText_1 : SCode := .reg [([2040, 2041, 2042, 2043], [⟨(some 5), none, none, .mov (.tmp 0)⟩, ⟨(some 6), none, none, .slen (.tmp 5)⟩, ⟨(some 7), none, none, .bin .gtr 3 (.tmp 6) (.val (.int .i64 60))⟩, ⟨(some 8), none, none, .mov (.tmp 7)⟩, ⟨(some 9), (some (8, false)), none, .mov (.tmp 0)⟩, ⟨(some 10), (some (8, false)), none, .call 119 0 [(.tmp 9)]⟩, ⟨(some 11), (some (8, false)), none, .un .not (.tmp 10)⟩, ⟨(some 12), none, none, .pick (.tmp 8) (.val (.bool true)) (.tmp 11)⟩])] [5, 6, 7, 8, 9, 10, 11]
abbrev c_val_rightText_2 : SCode := .reg [([], [⟨(some 2), none, none, .mov (.val (.bool false))⟩])] [0, 12]
abbrev c_val_rightText_3 : SCode := .reg [([14], [⟨(some 13), none, none, .mov (.tmp 0)⟩, ⟨(some 14), none, none, .rng (.tmp 13)⟩])] [0, 2, 12, 13]
abbrev c_val_rightText_4 : SCode := .reg [([], [⟨(some 15), none, none, .nxt (.tmp 14)⟩, ⟨(some 16), none, none, .ext (.tmp 15) 0⟩])] []
abbrev c_val_rightText_5 : SCode := .reg [([], [⟨(some 17), none, none, .ext (.tmp 15) 2⟩, ⟨(some 4), none, none, .mov (.tmp 17)⟩])] [15, 16, 17]
abbrev c_val_rightText_6 : SCode := .reg [([2076, 2077, 2078, 2079], [⟨(some 18), none, none, .mov (.tmp 4)⟩, ⟨(some 19), none, none, .call 120 0 [(.tmp 18)]⟩, ⟨(some 20), none, none, .un .not (.tmp 19)⟩])] [4, 18, 19]
abbrev c_val_rightText_7 : SCode := .reg [([], [⟨(some 2), none, none, .mov (.val (.bool false))⟩])] [14, 20]
abbrev c_val_rightText_8 : SCode := (.seq c_val_rightText_4 (.seq (.cond (.tmp 16) .skip (.exit 0)) (.block 1 (.seq c_val_rightText_5 (.seq c_val_rightText_6 (.cond (.tmp 20) (.seq c_val_rightText_7 .ret) .skip))))))
abbrev c_val_rightText_9 : SCode := .reg [([], [⟨(some 2), none, none, .mov (.val (.bool true))⟩])] [14]
abbrev F_val_rightText : SFunc := ⟨21, (.seq c_val_rightText_0 (.seq (.seq c_val_rightText_1 (.cond (.tmp 12) (.seq c_val_rightText_2 .ret) .skip)) (.seq (.seq c_val_rightText_3 (.block 0 (.loop c_val_rightText_8))) (.seq c_val_rightText_9 .ret)))), [.tmp 2], false⟩
theorem tf_val_rightText : transFunc Go.Proofs.Tryz.prog 64 (hintT [(10, 0), (19, 0)]) (fpT []) (killT [(0, [2]), (1, [5, 6, 7, 8, 9, 10, 11]), (2, [0, 12]), (3, [0, 2, 12, 13]), (5, [15, 16, 17]), (6, [4, 18, 19]), (7, [14, 20]), (8, [14])]) false = some F_val_rightText := by kernel_rfl
-- val.rightID
abbrev c_val_rightID_0 : SCode := .reg [([], [⟨(some 2), none, none, .mov (.val (.bool false))⟩])] [2]
abbrev c_val_rightID_1 : SCode := .reg [([], [⟨(some 3), none, none, .mov (.tmp 0)⟩, ⟨(some 4), none, none, .bin .geq 3 (.tmp 3) (.val (.int .i64 1))⟩, ⟨(some 5), none, none, .mov (.tmp 4)⟩, ⟨(some 6), (some (5, true)), none, .mov (.tmp 0)⟩, ⟨(some 7), (some (5, true)), none, .bin .leq 3 (.tmp 6) (.val (.int .i64 100000))⟩, ⟨(some 8), none, none, .pick (.tmp 5) (.tmp 7) (.val (.bool false))⟩, ⟨(some 9), none, none, .mov (.tmp 8)⟩, ⟨(some 10), (some (9, false)), none, .mov (.tmp 0)⟩, ⟨(some 11), (some (9, false)), none, .bin .geq 3 (.tmp 10) (.val (.int .i64 (-20)))⟩, ⟨(some 12), (some (9, false)), none, .mov (.tmp 11)⟩, ⟨(some 13), (some (12, true)), none, .mov (.tmp 0)⟩, ⟨(some 14), (some (12, true)), none, .bin .leq 3 (.tmp 13) (.val (.int .i64 (-1)))⟩, ⟨(some 15), (some (9, false)), none, .pick (.tmp 12) (.tmp 14) (.val (.bool false))⟩, ⟨(some 16), none, none, .pick (.tmp 9) (.val (.bool true)) (.tmp 15)⟩, ⟨(some 2), none, none, .mov (.tmp 16)⟩])] [0, 3, 4, 5, 6, 7, 8, 9, 10, 11, 12, 13, 14, 15, 16]
abbrev F_val_rightID : SFunc := ⟨17, (.seq c_val_rightID_0 (.seq c_val_rightID_1 .ret)), [.tmp 2], false⟩
theorem tf_val_rightID : transFunc Go.Proofs.Tryz.prog 65 (hintT []) (fpT []) (killT [(0, [2]), (1, [0, 3, 4, 5, 6, 7, 8, 9, 10, 11, 12, 13, 14, 15, 16])]) false = some F_val_rightID := by kernel_rfl
-- slices.ContainsFunc[[]api.Val,api.Val]
abbrev c_slices_ContainsFunc___api_Val_api_Val__0 : SCode := .reg [([], [⟨(some 4), none, none, .mov (.val (.bool false))⟩])] [4]
abbrev c_slices_ContainsFunc___api_Val_api_Val__1 : SCode := .reg [([2028, 2029, 2030, 2031], [⟨(some 5), none, none, .mov (.tmp 0)⟩, ⟨(some 6), none, none, .mov (.tmp 1)⟩, ⟨(some 7), none, none, .call 121 1 [(.tmp 5), (.tmp 6)]⟩, ⟨(some 8), none, none, .bin .geq 3 (.tmp 7) (.val (.int .i64 0))⟩, ⟨(some 4), none, none, .mov (.tmp 8)⟩])] [0, 1, 5, 6, 7, 8]
abbrev F_slices_ContainsFunc___api_Val_api_Val_ : SFunc := ⟨9, (.seq c_slices_ContainsFunc___api_Val_api_Val__0 (.seq c_slices_ContainsFunc___api_Val_api_Val__1 .ret)), [.tmp 4], false⟩
theorem tf_slices_ContainsFunc___api_Val_api_Val_ : transFunc Go.Proofs.Tryz.prog 66 (hintT [(7, 1)]) (fpT []) (killT [(0, [4]), (1, [0, 1, 5, 6, 7, 8])]) false = some F_slices_ContainsFunc___api_Val_api_Val_ := by kernel_rfl
-- val.noItem
abbrev c_val_noItem_0 : SCode := .reg [([1], [⟨(some 1), none, none, .box (.tmp 0)⟩, ⟨(some 2), none, none, .mov (.val (.bool false))⟩])] [0, 2]
abbrev c_val_noItem_1 : SCode := .reg [([2032, 2033, 2034, 2035], [⟨(some 3), none, none, .fldA 0 (.tmp 1)⟩, ⟨(some 4), none, none, .ld false 1 (.tmp 3)⟩, ⟨(some 5), none, none, .bin .eql 3 (.tmp 4) (.val (.int .i64 5))⟩, ⟨(some 6), none, none, .mov (.tmp 5)⟩, ⟨(some 7), (some (6, false)), none, .ld true 4 (.tmp 1)⟩, ⟨(some 8), (some (6, false)), none, .call 28 0 [(.tmp 7)]⟩, ⟨(some 9), (some (6, false)), none, .un .not (.tmp 8)⟩, ⟨(some 10), none, none, .pick (.tmp 6) (.val (.bool true)) (.tmp 9)⟩, ⟨(some 2), none, none, .mov (.tmp 10)⟩])] [1, 3, 4, 5, 6, 7, 8, 9, 10]
abbrev F_val_noItem : SFunc := ⟨11, (.seq c_val_noItem_0 (.seq c_val_noItem_1 .ret)), [.tmp 2], false⟩
theorem tf_val_noItem : transFunc Go.Proofs.Tryz.prog 67 (hintT [(8, 0)]) (fpT []) (killT [(0, [0, 2]), (1, [1, 3, 4, 5, 6, 7, 8, 9, 10])]) false = some F_val_noItem := by kernel_rfl
-- moraineref03.IsText
abbrev c_moraineref03_IsText_0 : SCode := .reg [([], [⟨(some 2), none, none, .mov (.val (.bool false))⟩])] [2]
abbrev c_moraineref03_IsText_1 : SCode := .reg [([], [⟨(some 3), none, none, .mov (.val (.int .i64 0))⟩])] []
abbrev c_moraineref03_IsText_2 : SCode := .reg [([], [⟨(some 5), none, none, .mov (.tmp 3)⟩, ⟨(some 6), none, none, .mov (.tmp 0)⟩, ⟨(some 7), none, none, .slen (.tmp 6)⟩, ⟨(some 8), none, none, .bin .lss 3 (.tmp 5) (.tmp 7)⟩])] [5, 6, 7]
abbrev c_moraineref03_IsText_3 : SCode := .reg [([2048, 2049, 2050, 2051], [⟨(some 9), none, none, .mov (.tmp 0)⟩, ⟨(some 10), none, none, .mov (.tmp 3)⟩, ⟨(some 11), none, none, .ssub (.tmp 9) (some (.tmp 10)) none⟩, ⟨(some 12), none, none, .call 122 0 [(.tmp 11)]⟩, ⟨(some 4), none, none, .mov (.tmp 12)⟩])] [8, 9, 10, 11, 12]
abbrev c_moraineref03_IsText_4 : SCode := .reg [([], [⟨(some 13), none, none, .mov (.tmp 4)⟩, ⟨(some 14), none, none, .bin .eql 3 (.tmp 13) (.val (.int .i64 0))⟩, ⟨(some 15), none, none, .mov (.tmp 14)⟩, ⟨(some 16), (some (15, false)), none, .mov (.tmp 0)⟩, ⟨(some 17), (some (15, false)), none, .mov (.tmp 3)⟩, ⟨(some 18), (some (15, false)), none, .sidx (.tmp 16) (.tmp 17)⟩, ⟨(some 19), (some (15, false)), none, .bin .lss 5 (.tmp 18) (.val (.int .u8 32))⟩, ⟨(some 20), none, none, .pick (.tmp 15) (.val (.bool true)) (.tmp 19)⟩, ⟨(some 21), none, none, .mov (.tmp 20)⟩, ⟨(some 22), (some (21, false)), none, .mov (.tmp 0)⟩, ⟨(some 23), (some (21, false)), none, .mov (.tmp 3)⟩, ⟨(some 24), (some (21, false)), none, .sidx (.tmp 22) (.tmp 23)⟩, ⟨(some 25), (some (21, false)), none, .bin .eql 5 (.tmp 24) (.val (.int .u8 127))⟩, ⟨(some 26), none, none, .pick (.tmp 21) (.val (.bool true)) (.tmp 25)⟩])] [13, 14, 15, 16, 17, 18, 19, 20, 21, 22, 23, 24, 25]
abbrev c_moraineref03_IsText_5 : SCode := .reg [([], [⟨(some 2), none, none, .mov (.val (.bool false))⟩])] [0, 3, 4, 26]
abbrev c_moraineref03_IsText_6 : SCode := .reg [([], [⟨(some 27), none, none, .mov (.tmp 3)⟩, ⟨(some 28), none, none, .mov (.tmp 4)⟩, ⟨(some 29), none, none, .bin .add 3 (.tmp 27) (.tmp 28)⟩, ⟨(some 3), none, none, .mov (.tmp 29)⟩])] [2, 4, 26, 27, 28, 29]
abbrev c_moraineref03_IsText_7 : SCode := (.seq (.seq c_moraineref03_IsText_2 (.cond (.tmp 8) .skip (.exit 0))) (.block 1 (.seq c_moraineref03_IsText_3 (.seq (.seq c_moraineref03_IsText_4 (.cond (.tmp 26) (.seq c_moraineref03_IsText_5 .ret) .skip)) c_moraineref03_IsText_6))))
abbrev c_moraineref03_IsText_8 : SCode := .reg [([], [⟨(some 2), none, none, .mov (.val (.bool true))⟩])] [0, 3]
abbrev F_moraineref03_IsText : SFunc := ⟨30, (.seq c_moraineref03_IsText_0 (.seq (.seq c_moraineref03_IsText_1 (.block 0 (.loop c_moraineref03_IsText_7))) (.seq c_moraineref03_IsText_8 .ret))), [.tmp 2], false⟩
theorem tf_moraineref03_IsText : transFunc Go.Proofs.Tryz.prog 68 (hintT [(12, 0)]) (fpT []) (killT [(0, [2]), (2, [5, 6, 7]), (3, [8, 9, 10, 11, 12]), (4, [13, 14, 15, 16, 17, 18, 19, 20, 21, 22, 23, 24, 25]), (5, [0, 3, 4, 26]), (6, [2, 4, 26, 27, 28, 29]), (7, [0, 3])]) false = some F_moraineref03_IsText := by kernel_rfl
-- cmp.Compare[int]
abbrev c_cmp_Compare_int__0 : SCode := .reg [([], [⟨(some 4), none, none, .mov (.val (.int .i64 0))⟩])] [4]
abbrev c_cmp_Compare_int__1 : SCode := .reg [([2032, 2033, 2034, 2035], [⟨(some 7), none, none, .mov (.tmp 0)⟩, ⟨(some 8), none, none, .call 123 0 [(.tmp 7)]⟩, ⟨(some 5), none, none, .mov (.tmp 8)⟩])] [7, 8]
abbrev c_cmp_Compare_int__2 : SCode := .reg [([2040, 2041, 2042, 2043], [⟨(some 9), none, none, .mov (.tmp 1)⟩, ⟨(some 10), none, none, .call 123 0 [(.tmp 9)]⟩, ⟨(some 6), none, none, .mov (.tmp 10)⟩])] [9, 10]
abbrev c_cmp_Compare_int__3 : SCode := .reg [([], [⟨(some 11), none, none, .mov (.tmp 5)⟩])] [5]
abbrev c_cmp_Compare_int__4 : SCode := .reg [([], [⟨(some 12), none, none, .mov (.tmp 6)⟩])] [0, 1, 6, 11]
abbrev c_cmp_Compare_int__5 : SCode := .reg [([], [⟨(some 4), none, none, .mov (.val (.int .i64 0))⟩])] [12]
abbrev c_cmp_Compare_int__6 : SCode := .reg [([], [⟨(some 4), none, none, .mov (.val (.int .i64 (-1)))⟩])] [12]
abbrev c_cmp_Compare_int__7 : SCode := .reg [([], [⟨(some 13), none, none, .mov (.tmp 6)⟩])] [4, 6, 11]
abbrev c_cmp_Compare_int__8 : SCode := .reg [([], [⟨(some 4), none, none, .mov (.val (.int .i64 1))⟩])] [0, 1, 13]
abbrev c_cmp_Compare_int__9 : SCode := .reg [([], [⟨(some 14), none, none, .mov (.tmp 0)⟩, ⟨(some 15), none, none, .mov (.tmp 1)⟩, ⟨(some 16), none, none, .bin .lss 3 (.tmp 14) (.tmp 15)⟩])] [4, 13, 14, 15]
abbrev c_cmp_Compare_int__10 : SCode := .reg [([], [⟨(some 4), none, none, .mov (.val (.int .i64 (-1)))⟩])] [0, 1, 16]
abbrev c_cmp_Compare_int__11 : SCode := .reg [([], [⟨(some 17), none, none, .mov (.tmp 0)⟩, ⟨(some 18), none, none, .mov (.tmp 1)⟩, ⟨(some 19), none, none, .bin .gtr 3 (.tmp 17) (.tmp 18)⟩])] [0, 1, 4, 16, 17, 18]
abbrev c_cmp_Compare_int__12 : SCode := .reg [([], [⟨(some 4), none, none, .mov (.val (.int .i64 1))⟩])] [19]
abbrev c_cmp_Compare_int__13 : SCode := .reg [([], [⟨(some 4), none, none, .mov (.val (.int .i64 0))⟩])] [19]
abbrev F_cmp_Compare_int_ : SFunc := ⟨20, (.seq c_cmp_Compare_int__0 (.seq c_cmp_Compare_int__1 (.seq c_cmp_Compare_int__2 (.seq (.seq c_cmp_Compare_int__3 (.cond (.tmp 11) (.seq (.seq c_cmp_Compare_int__4 (.cond (.tmp 12) (.seq c_cmp_Compare_int__5 .ret) .skip)) (.seq c_cmp_Compare_int__6 .ret)) .skip)) (.seq (.seq c_cmp_Compare_int__7 (.cond (.tmp 13) (.seq c_cmp_Compare_int__8 .ret) .skip)) (.seq (.seq c_cmp_Compare_int__9 (.cond (.tmp 16) (.seq c_cmp_Compare_int__10 .ret) .skip)) (.seq (.seq c_cmp_Compare_int__11 (.cond (.tmp 19) (.seq c_cmp_Compare_int__12 .ret) .skip)) (.seq c_cmp_Compare_int__13 .ret)))))))), [.tmp 4], false⟩
theorem tf_cmp_Compare_int_ : transFunc Go.Proofs.Tryz.prog 70 (hintT [(8, 0), (10, 0)]) (fpT []) (killT [(0, [4]), (1, [7, 8]), (2, [9, 10]), (3, [5]), (4, [0, 1, 6, 11]), (5, [12]), (6, [12]), (7, [4, 6, 11]), (8, [0, 1, 13]), (9, [4, 13, 14, 15]), (10, [0, 1, 16]), (11, [0, 1, 4, 16, 17, 18]), (12, [19]), (13, [19])]) false = some F_cmp_Compare_int_ := by kernel_rfl
-- cmp.Compare[string]
abbrev c_cmp_Compare_string__0 : SCode := .reg [([], [⟨(some 4), none, none, .mov (.val (.int .i64 0))⟩])] [4]
abbrev c_cmp_Compare_string__1 : SCode := .reg [([2032, 2033, 2034, 2035], [⟨(some 7), none, none, .mov (.tmp 0)⟩, ⟨(some 8), none, none, .call 124 0 [(.tmp 7)]⟩, ⟨(some 5), none, none, .mov (.tmp 8)⟩])] [7, 8]
abbrev c_cmp_Compare_string__2 : SCode := .reg [([2040, 2041, 2042, 2043], [⟨(some 9), none, none, .mov (.tmp 1)⟩, ⟨(some 10), none, none, .call 124 0 [(.tmp 9)]⟩, ⟨(some 6), none, none, .mov (.tmp 10)⟩])] [9, 10]
abbrev c_cmp_Compare_string__3 : SCode := .reg [([], [⟨(some 11), none, none, .mov (.tmp 5)⟩])] [5]
abbrev c_cmp_Compare_string__4 : SCode := .reg [([], [⟨(some 12), none, none, .mov (.tmp 6)⟩])] [0, 1, 6, 11]
abbrev c_cmp_Compare_string__5 : SCode := .reg [([], [⟨(some 4), none, none, .mov (.val (.int .i64 0))⟩])] [12]
abbrev c_cmp_Compare_string__6 : SCode := .reg [([], [⟨(some 4), none, none, .mov (.val (.int .i64 (-1)))⟩])] [12]
abbrev c_cmp_Compare_string__7 : SCode := .reg [([], [⟨(some 13), none, none, .mov (.tmp 6)⟩])] [4, 6, 11]
abbrev c_cmp_Compare_string__8 : SCode := .reg [([], [⟨(some 4), none, none, .mov (.val (.int .i64 1))⟩])] [0, 1, 13]
abbrev c_cmp_Compare_string__9 : SCode := .reg [([], [⟨(some 14), none, none, .mov (.tmp 0)⟩, ⟨(some 15), none, none, .mov (.tmp 1)⟩, ⟨(some 16), none, none, .bin .lss 9 (.tmp 14) (.tmp 15)⟩])] [4, 13, 14, 15]
abbrev c_cmp_Compare_string__10 : SCode := .reg [([], [⟨(some 4), none, none, .mov (.val (.int .i64 (-1)))⟩])] [0, 1, 16]
abbrev c_cmp_Compare_string__11 : SCode := .reg [([], [⟨(some 17), none, none, .mov (.tmp 0)⟩, ⟨(some 18), none, none, .mov (.tmp 1)⟩, ⟨(some 19), none, none, .bin .gtr 9 (.tmp 17) (.tmp 18)⟩])] [0, 1, 4, 16, 17, 18]
abbrev c_cmp_Compare_string__12 : SCode := .reg [([], [⟨(some 4), none, none, .mov (.val (.int .i64 1))⟩])] [19]
abbrev c_cmp_Compare_string__13 : SCode := .reg [([], [⟨(some 4), none, none, .mov (.val (.int .i64 0))⟩])] [19]
abbrev F_cmp_Compare_string_ : SFunc := ⟨20, (.seq c_cmp_Compare_string__0 (.seq c_cmp_Compare_string__1 (.seq c_cmp_Compare_string__2 (.seq (.seq c_cmp_Compare_string__3 (.cond (.tmp 11) (.seq (.seq c_cmp_Compare_string__4 (.cond (.tmp 12) (.seq c_cmp_Compare_string__5 .ret) .skip)) (.seq c_cmp_Compare_string__6 .ret)) .skip)) (.seq (.seq c_cmp_Compare_string__7 (.cond (.tmp 13) (.seq c_cmp_Compare_string__8 .ret) .skip)) (.seq (.seq c_cmp_Compare_string__9 (.cond (.tmp 16) (.seq c_cmp_Compare_string__10 .ret) .skip)) (.seq (.seq c_cmp_Compare_string__11 (.cond (.tmp 19) (.seq c_cmp_Compare_string__12 .ret) .skip)) (.seq c_cmp_Compare_string__13 .ret)))))))), [.tmp 4], false⟩
theorem tf_cmp_Compare_string_ : transFunc Go.Proofs.Tryz.prog 71 (hintT [(8, 0), (10, 0)]) (fpT []) (killT [(0, [4]), (1, [7, 8]), (2, [9, 10]), (3, [5]), (4, [0, 1, 6, 11]), (5, [12]), (6, [12]), (7, [4, 6, 11]), (8, [0, 1, 13]), (9, [4, 13, 14, 15]), (10, [0, 1, 16]), (11, [0, 1, 4, 16, 17, 18]), (12, [19]), (13, [19])]) false = some F_cmp_Compare_string_ := by kernel_rfl
-- val.byItems[api.Val]
abbrev c_val_byItems_api_Val__0 : SCode := .reg [([], [⟨(some 6), none, none, .mov (.val (.int .i64 0))⟩])] [6]
abbrev c_val_byItems_api_Val__1 : SCode := .reg [([], [⟨(some 9), none, none, .mov (.tmp 0)⟩, ⟨(some 10), none, none, .len (.tmp 9)⟩, ⟨(some 11), none, none, .mov (.tmp 1)⟩, ⟨(some 12), none, none, .len (.tmp 11)⟩, ⟨(some 13), none, none, .imm false (.tmp 10) (.tmp 12)⟩, ⟨(some 14), none, none, .mov (.val (.int .i64 0))⟩])] [9, 10, 11, 12]
abbrev c_val_byItems_api_Val__2 : SCode := .reg [([], [⟨(some 15), none, none, .bin .lss 3 (.tmp 14) (.tmp 13)⟩])] []
abbrev c_val_byItems_api_Val__3 : SCode := .reg [([], [⟨(some 16), none, none, .mov (.tmp 14)⟩, ⟨(some 7), none, none, .mov (.tmp 16)⟩])] [15, 16]
abbrev c_val_byItems_api_Val__4 : SCode := .reg [([2104, 2105, 2106, 2107], [⟨(some 17), none, none, .mov (.tmp 2)⟩, ⟨(some 18), none, none, .mov (.tmp 0)⟩, ⟨(some 19), none, none, .mov (.tmp 7)⟩, ⟨(some 20), none, none, .idxA 4 (.tmp 18) (.tmp 19)⟩, ⟨(some 21), none, none, .ld true 4 (.tmp 20)⟩, ⟨(some 22), none, none, .mov (.tmp 1)⟩, ⟨(some 23), none, none, .mov (.tmp 7)⟩, ⟨(some 24), none, none, .idxA 4 (.tmp 22) (.tmp 23)⟩, ⟨(some 25), none, none, .ld true 4 (.tmp 24)⟩, ⟨(some 26), none, none, .callv (.tmp 17) 1 [(.tmp 21), (.tmp 25)]⟩, ⟨(some 8), none, none, .mov (.tmp 26)⟩])] [7, 17, 18, 19, 20, 21, 22, 23, 24, 25, 26]
abbrev c_val_byItems_api_Val__5 : SCode := .reg [([], [⟨(some 27), none, none, .mov (.tmp 8)⟩, ⟨(some 28), none, none, .bin .neq 3 (.tmp 27) (.val (.int .i64 0))⟩])] [27]
abbrev c_val_byItems_api_Val__6 : SCode := .reg [([], [⟨(some 29), none, none, .mov (.tmp 8)⟩, ⟨(some 6), none, none, .mov (.tmp 29)⟩])] [0, 1, 2, 8, 13, 14, 28, 29]
abbrev c_val_byItems_api_Val__7 : SCode := .reg [([], [⟨(some 30), none, none, .bin .add 3 (.tmp 14) (.val (.int .i64 1))⟩, ⟨(some 14), none, none, .mov (.tmp 30)⟩])] [6, 8, 28, 30]
abbrev c_val_byItems_api_Val__8 : SCode := (.seq c_val_byItems_api_Val__2 (.seq (.cond (.tmp 15) .skip (.exit 0)) (.seq (.block 1 (.seq c_val_byItems_api_Val__3 (.seq c_val_byItems_api_Val__4 (.seq c_val_byItems_api_Val__5 (.cond (.tmp 28) (.seq c_val_byItems_api_Val__6 .ret) .skip))))) c_val_byItems_api_Val__7)))
abbrev c_val_byItems_api_Val__9 : SCode := .reg [([2140, 2141, 2142, 2143], [⟨(some 31), none, none, .mov (.tmp 0)⟩, ⟨(some 32), none, none, .len (.tmp 31)⟩, ⟨(some 33), none, none, .mov (.tmp 1)⟩, ⟨(some 34), none, none, .len (.tmp 33)⟩, ⟨(some 35), none, none, .call 70 0 [(.tmp 32), (.tmp 34)]⟩, ⟨(some 6), none, none, .mov (.tmp 35)⟩])] [0, 1, 2, 13, 14, 31, 32, 33, 34, 35]
abbrev F_val_byItems_api_Val_ : SFunc := ⟨36, (.seq c_val_byItems_api_Val__0 (.seq (.seq c_val_byItems_api_Val__1 (.block 0 (.loop c_val_byItems_api_Val__8))) (.seq c_val_byItems_api_Val__9 .ret))), [.tmp 6], false⟩
theorem tf_val_byItems_api_Val_ : transFunc Go.Proofs.Tryz.prog 72 (hintT [(26, 1), (35, 0)]) (fpT []) (killT [(0, [6]), (1, [9, 10, 11, 12]), (3, [15, 16]), (4, [7, 17, 18, 19, 20, 21, 22, 23, 24, 25, 26]), (5, [27]), (6, [0, 1, 2, 8, 13, 14, 28, 29]), (7, [6, 8, 28, 30]), (8, [0, 1, 2, 13, 14, 31, 32, 33, 34, 35])]) false = some F_val_byItems_api_Val_ := by kernel_rfl
-- moraineref03.Order
abbrev c_moraineref03_Order_0 : SCode := .reg [([], [⟨(some 4), none, none, .mov (.val (.int .i64 0))⟩])] [4]
abbrev c_moraineref03_Order_1 : SCode := .reg [([], [⟨(some 5), none, none, .mov (.tmp 0)⟩, ⟨(some 6), none, none, .mov (.tmp 1)⟩, ⟨(some 7), none, none, .bin .lss 3 (.tmp 5) (.tmp 6)⟩])] [5, 6]
abbrev c_moraineref03_Order_2 : SCode := .reg [([], [⟨(some 4), none, none, .mov (.val (.int .i64 (-1)))⟩])] [0, 1, 7]
abbrev c_moraineref03_Order_3 : SCode := .reg [([], [⟨(some 8), none, none, .mov (.tmp 0)⟩, ⟨(some 9), none, none, .mov (.tmp 1)⟩, ⟨(some 10), none, none, .bin .gtr 3 (.tmp 8) (.tmp 9)⟩])] [0, 1, 4, 7, 8, 9]
abbrev c_moraineref03_Order_4 : SCode := .reg [([], [⟨(some 4), none, none, .mov (.val (.int .i64 1))⟩])] [10]
abbrev c_moraineref03_Order_5 : SCode := .reg [([], [⟨(some 4), none, none, .mov (.val (.int .i64 0))⟩])] [10]
abbrev F_moraineref03_Order : SFunc := ⟨11, (.seq c_moraineref03_Order_0 (.seq (.seq c_moraineref03_Order_1 (.cond (.tmp 7) (.seq c_moraineref03_Order_2 .ret) .skip)) (.seq (.seq c_moraineref03_Order_3 (.cond (.tmp 10) (.seq c_moraineref03_Order_4 .ret) .skip)) (.seq c_moraineref03_Order_5 .ret)))), [.tmp 4], false⟩
theorem tf_moraineref03_Order : transFunc Go.Proofs.Tryz.prog 73 (hintT []) (fpT []) (killT [(0, [4]), (1, [5, 6]), (2, [0, 1, 7]), (3, [0, 1, 4, 7, 8, 9]), (4, [10]), (5, [10])]) false = some F_moraineref03_Order := by kernel_rfl
-- val.rightType
abbrev c_val_rightType_0 : SCode := .reg [([1], [⟨(some 1), none, none, .box (.tmp 0)⟩, ⟨(some 2), none, none, .mov (.val (.bool false))⟩])] [0, 2]
abbrev c_val_rightType_1 : SCode := .reg [([], [⟨(some 3), none, none, .fldA 0 (.tmp 1)⟩, ⟨(some 4), none, none, .ld false 1 (.tmp 3)⟩, ⟨(some 5), none, none, .bin .eql 3 (.tmp 4) (.val (.int .i64 5))⟩])] [3, 4]
abbrev c_val_rightType_2 : SCode := .reg [([], [⟨(some 6), none, none, .fldA 1 (.tmp 1)⟩, ⟨(some 7), none, none, .ld false 1 (.tmp 6)⟩, ⟨(some 8), none, none, .bin .geq 3 (.tmp 7) (.val (.int .i64 1))⟩, ⟨(some 9), none, none, .mov (.tmp 8)⟩, ⟨(some 10), (some (9, true)), none, .fldA 1 (.tmp 1)⟩, ⟨(some 11), (some (9, true)), none, .ld false 1 (.tmp 10)⟩, ⟨(some 12), (some (9, true)), none, .bin .leq 3 (.tmp 11) (.val (.int .i64 4))⟩, ⟨(some 13), none, none, .pick (.tmp 9) (.tmp 12) (.val (.bool false))⟩, ⟨(some 2), none, none, .mov (.tmp 13)⟩])] [1, 5, 6, 7, 8, 9, 10, 11, 12, 13]
abbrev c_val_rightType_3 : SCode := .reg [([], [⟨(some 14), none, none, .fldA 0 (.tmp 1)⟩, ⟨(some 15), none, none, .ld false 1 (.tmp 14)⟩, ⟨(some 16), none, none, .bin .geq 3 (.tmp 15) (.val (.int .i64 1))⟩, ⟨(some 17), none, none, .mov (.tmp 16)⟩, ⟨(some 18), (some (17, true)), none, .fldA 0 (.tmp 1)⟩, ⟨(some 19), (some (17, true)), none, .ld false 1 (.tmp 18)⟩, ⟨(some 20), (some (17, true)), none, .bin .leq 3 (.tmp 19) (.val (.int .i64 4))⟩, ⟨(some 21), none, none, .pick (.tmp 17) (.tmp 20) (.val (.bool false))⟩, ⟨(some 22), none, none, .mov (.tmp 21)⟩, ⟨(some 23), (some (22, true)), none, .fldA 1 (.tmp 1)⟩, ⟨(some 24), (some (22, true)), none, .ld false 1 (.tmp 23)⟩, ⟨(some 25), (some (22, true)), none, .bin .eql 3 (.tmp 24) (.val (.int .i64 0))⟩, ⟨(some 26), none, none, .pick (.tmp 22) (.tmp 25) (.val (.bool false))⟩, ⟨(some 2), none, none, .mov (.tmp 26)⟩])] [1, 5, 14, 15, 16, 17, 18, 19, 20, 21, 22, 23, 24, 25, 26]
abbrev F_val_rightType : SFunc := ⟨27, (.seq c_val_rightType_0 (.seq (.seq c_val_rightType_1 (.cond (.tmp 5) (.seq c_val_rightType_2 .ret) .skip)) (.seq c_val_rightType_3 .ret))), [.tmp 2], false⟩
theorem tf_val_rightType : transFunc Go.Proofs.Tryz.prog 74 (hintT []) (fpT []) (killT [(0, [0, 2]), (1, [3, 4]), (2, [1, 5, 6, 7, 8, 9, 10, 11, 12, 13]), (3, [1, 5, 14, 15, 16, 17, 18, 19, 20, 21, 22, 23, 24, 25, 26])]) false = some F_val_rightType := by kernel_rfl
-- val.ofKind
abbrev c_val_ofKind_0 : SCode := .reg [([2], [⟨(some 2), none, none, .box (.tmp 0)⟩, ⟨(some 4), none, none, .mov (.val (.bool false))⟩])] [0, 4]
abbrev c_val_ofKind_1 : SCode := .reg [([], [⟨(some 5), none, none, .fldA 0 (.tmp 2)⟩, ⟨(some 6), none, none, .ld false 1 (.tmp 5)⟩, ⟨(some 7), none, none, .mov (.tmp 1)⟩, ⟨(some 8), none, none, .bin .eql 3 (.tmp 6) (.tmp 7)⟩, ⟨(some 9), none, none, .mov (.tmp 8)⟩, ⟨(some 10), (some (9, false)), none, .fldA 0 (.tmp 2)⟩, ⟨(some 11), (some (9, false)), none, .ld false 1 (.tmp 10)⟩, ⟨(some 12), (some (9, false)), none, .bin .eql 3 (.tmp 11) (.val (.int .i64 0))⟩, ⟨(some 13), (some (9, false)), none, .mov (.tmp 12)⟩, ⟨(some 14), (some (13, true)), none, .mov (.tmp 1)⟩, ⟨(some 15), (some (13, true)), none, .bin .eql 3 (.tmp 14) (.val (.int .i64 3))⟩, ⟨(some 16), (some (13, true)), none, .mov (.tmp 15)⟩, ⟨(some 17), (some (16, false)), none, .mov (.tmp 1)⟩, ⟨(some 18), (some (16, false)), none, .bin .eql 3 (.tmp 17) (.val (.int .i64 4))⟩, ⟨(some 19), (some (13, true)), none, .pick (.tmp 16) (.val (.bool true)) (.tmp 18)⟩, ⟨(some 20), (some (9, false)), none, .pick (.tmp 13) (.tmp 19) (.val (.bool false))⟩, ⟨(some 21), none, none, .pick (.tmp 9) (.val (.bool true)) (.tmp 20)⟩, ⟨(some 4), none, none, .mov (.tmp 21)⟩])] [1, 2, 5, 6, 7, 8, 9, 10, 11, 12, 13, 14, 15, 16, 17, 18, 19, 20, 21]
abbrev F_val_ofKind : SFunc := ⟨22, (.seq c_val_ofKind_0 (.seq c_val_ofKind_1 .ret)), [.tmp 4], false⟩
theorem tf_val_ofKind : transFunc Go.Proofs.Tryz.prog 75 (hintT []) (fpT []) (killT [(0, [0, 4]), (1, [1, 2, 5, 6, 7, 8, 9, 10, 11, 12, 13, 14, 15, 16, 17, 18, 19, 20, 21])]) false = some F_val_ofKind := by kernel_rfl
-- val.Fits$1
abbrev c_val_Fits_1_0 : SCode := .reg [([2], [⟨(some 2), none, none, .box (.tmp 0)⟩, ⟨(some 3), none, none, .mov (.val (.bool false))⟩])] [0, 3]
abbrev c_val_Fits_1_1 : SCode := .reg [([2028, 2029, 2030, 2031], [⟨(some 4), none, none, .ld true 4 (.tmp 2)⟩, ⟨(some 5), none, none, .fldA 1 (.tmp 1)⟩, ⟨(some 6), none, none, .ld false 1 (.tmp 5)⟩, ⟨(some 7), none, none, .call 75 0 [(.tmp 4), (.tmp 6)]⟩, ⟨(some 8), none, none, .un .not (.tmp 7)⟩, ⟨(some 3), none, none, .mov (.tmp 8)⟩])] [1, 2, 4, 5, 6, 7, 8]
abbrev F_val_Fits_1 : SFunc := ⟨9, (.seq c_val_Fits_1_0 (.seq c_val_Fits_1_1 .ret)), [.tmp 3], false⟩
theorem tf_val_Fits_1 : transFunc Go.Proofs.Tryz.prog 76 (hintT [(7, 0)]) (fpT []) (killT [(0, [0, 3]), (1, [1, 2, 4, 5, 6, 7, 8])]) false = some F_val_Fits_1 := by kernel_rfl
-- morainelaw03.ValText
abbrev c_morainelaw03_ValText_0 : SCode := .reg [([], [⟨(some 2), none, none, .mov (.val (.string ⟨#[]⟩))⟩])] [2]
abbrev c_morainelaw03_ValText_1 : SCode := .reg [([], [⟨(some 3), none, none, .mov (.val (.string ⟨#[]⟩))⟩])] []
abbrev c_morainelaw03_ValText_2 : SCode := .reg [([], [⟨(some 4), none, none, .mov (.val (.int .i64 0))⟩])] []
abbrev c_morainelaw03_ValText_3 : SCode := .reg [([], [⟨(some 7), none, none, .mov (.tmp 4)⟩, ⟨(some 8), none, none, .mov (.tmp 0)⟩, ⟨(some 9), none, none, .slen (.tmp 8)⟩, ⟨(some 10), none, none, .bin .lss 3 (.tmp 7) (.tmp 9)⟩, ⟨(some 11), none, none, .mov (.tmp 10)⟩, ⟨(some 12), (some (11, true)), none, .mov (.tmp 3)⟩, ⟨(some 13), (some (11, true)), none, .slen (.tmp 12)⟩, ⟨(some 14), (some (11, true)), none, .bin .lss 3 (.tmp 13) (.val (.int .i64 17))⟩, ⟨(some 15), none, none, .pick (.tmp 11) (.tmp 14) (.val (.bool false))⟩])] [7, 8, 9, 10, 11, 12, 13, 14]
abbrev c_morainelaw03_ValText_4 : SCode := .reg [([2076, 2077, 2078, 2079], [⟨(some 16), none, none, .mov (.tmp 0)⟩, ⟨(some 17), none, none, .mov (.tmp 4)⟩, ⟨(some 18), none, none, .ssub (.tmp 16) (some (.tmp 17)) none⟩, ⟨(some 19), none, none, .call 122 0 [(.tmp 18)]⟩, ⟨(some 20), none, none, .imm true (.tmp 19) (.val (.int .i64 1))⟩, ⟨(some 5), none, none, .mov (.tmp 20)⟩])] [15, 16, 17, 18, 19, 20]
abbrev c_morainelaw03_ValText_5 : SCode := .reg [([2108, 2109, 2110, 2111], [⟨(some 21), none, none, .mov (.tmp 0)⟩, ⟨(some 22), none, none, .mov (.tmp 4)⟩, ⟨(some 23), none, none, .mov (.tmp 4)⟩, ⟨(some 24), none, none, .mov (.tmp 5)⟩, ⟨(some 25), none, none, .bin .add 3 (.tmp 23) (.tmp 24)⟩, ⟨(some 26), none, none, .ssub (.tmp 21) (some (.tmp 22)) (some (.tmp 25))⟩, ⟨(some 27), none, none, .call 68 0 [(.tmp 26)]⟩, ⟨(some 6), none, none, .mov (.tmp 27)⟩])] [21, 22, 23, 24, 25, 26, 27]
abbrev c_morainelaw03_ValText_6 : SCode := .reg [([], [⟨(some 28), none, none, .mov (.tmp 6)⟩])] [6]
abbrev c_morainelaw03_ValText_7 : SCode := .reg [([], [⟨(some 29), none, none, .mov (.tmp 3)⟩, ⟨(some 30), none, none, .mov (.tmp 0)⟩, ⟨(some 31), none, none, .mov (.tmp 4)⟩, ⟨(some 32), none, none, .mov (.tmp 4)⟩, ⟨(some 33), none, none, .mov (.tmp 5)⟩, ⟨(some 34), none, none, .bin .add 3 (.tmp 32) (.tmp 33)⟩, ⟨(some 35), none, none, .ssub (.tmp 30) (some (.tmp 31)) (some (.tmp 34))⟩, ⟨(some 36), none, none, .bin .add 9 (.tmp 29) (.tmp 35)⟩, ⟨(some 3), none, none, .mov (.tmp 36)⟩])] [28, 29, 30, 31, 32, 33, 34, 35, 36]
abbrev c_morainelaw03_ValText_8 : SCode := .reg [([], [⟨(some 37), none, none, .mov (.tmp 4)⟩, ⟨(some 38), none, none, .mov (.tmp 5)⟩, ⟨(some 39), none, none, .bin .add 3 (.tmp 37) (.tmp 38)⟩, ⟨(some 4), none, none, .mov (.tmp 39)⟩])] [5, 28, 37, 38, 39]
abbrev c_morainelaw03_ValText_9 : SCode := (.seq (.seq c_morainelaw03_ValText_3 (.cond (.tmp 15) .skip (.exit 0))) (.block 1 (.seq c_morainelaw03_ValText_4 (.seq c_morainelaw03_ValText_5 (.seq (.seq c_morainelaw03_ValText_6 (.cond (.tmp 28) c_morainelaw03_ValText_7 .skip)) c_morainelaw03_ValText_8)))))
abbrev c_morainelaw03_ValText_10 : SCode := .reg [([], [⟨(some 40), none, none, .mov (.tmp 3)⟩, ⟨(some 2), none, none, .mov (.tmp 40)⟩])] [0, 3, 4, 40]
abbrev F_morainelaw03_ValText : SFunc := ⟨41, (.seq c_morainelaw03_ValText_0 (.seq c_morainelaw03_ValText_1 (.seq (.seq c_morainelaw03_ValText_2 (.block 0 (.loop c_morainelaw03_ValText_9))) (.seq c_morainelaw03_ValText_10 .ret)))), [.tmp 2], false⟩
theorem tf_morainelaw03_ValText : transFunc Go.Proofs.Tryz.prog 103 (hintT [(19, 0), (27, 0)]) (fpT []) (killT [(0, [2]), (3, [7, 8, 9, 10, 11, 12, 13, 14]), (4, [15, 16, 17, 18, 19, 20]), (5, [21, 22, 23, 24, 25, 26, 27]), (6, [6]), (7, [28, 29, 30, 31, 32, 33, 34, 35, 36]), (8, [5, 28, 37, 38, 39]), (9, [0, 3, 4, 40])]) false = some F_morainelaw03_ValText := by kernel_rfl
-- val.reader$1
abbrev c_val_reader_1_0 : SCode := .reg [([4], [⟨(some 4), none, none, .new [(.int .i64 0), (.int .i64 0), (.string ⟨#[]⟩), (.slice none 0 0)]⟩, ⟨(some 5), none, none, .mov (.val (.int .i64 0))⟩, ⟨(some 6), none, none, .mov (.val (.bool false))⟩])] [5, 6]
abbrev c_val_reader_1_1 : SCode := .reg [([2056, 2057, 2058, 2059, 7], [⟨(some 10), none, none, .mov (.tmp 0)⟩, ⟨(some 11), none, none, .ld false 1 (.tmp 1)⟩, ⟨(some 12), none, none, .ld false 1 (.tmp 2)⟩, ⟨(some 13), none, none, .ssub (.tmp 11) (some (.tmp 12)) none⟩, ⟨(some 14), none, none, .callv (.tmp 10) 1 [(.tmp 13)]⟩, ⟨(some 9), none, none, .mov (.tmp 14)⟩, ⟨(some 15), none, none, .ext (.tmp 9) 0⟩, ⟨(some 16), none, none, .ext (.tmp 9) 1⟩, ⟨(some 7), none, none, .new [(.int .i64 0), (.int .i64 0), (.string ⟨#[]⟩), (.slice none 0 0)]⟩, ⟨none, none, none, .st 4 (.tmp 7) (.tmp 15)⟩, ⟨(some 8), none, none, .mov (.tmp 16)⟩])] [0, 1, 9, 10, 11, 12, 13, 14, 15, 16]
abbrev c_val_reader_1_2 : SCode := .reg [([], [⟨(some 17), none, none, .ld false 1 (.tmp 2)⟩, ⟨(some 18), none, none, .mov (.tmp 8)⟩, ⟨(some 19), none, none, .bin .add 3 (.tmp 17) (.tmp 18)⟩, ⟨none, none, none, .st 1 (.tmp 2) (.tmp 19)⟩])] [17, 18, 19]
abbrev c_val_reader_1_3 : SCode := .reg [([], [⟨(some 20), none, (some 7), .ld true 4 (.tmp 7)⟩, ⟨(some 21), none, (some 1000), .ld false 1 (.tmp 2)⟩, ⟨(some 22), none, none, .mov (.tmp 8)⟩, ⟨(some 23), none, none, .bin .gtr 3 (.tmp 22) (.val (.int .i64 0))⟩, ⟨none, none, (some 4), .st 4 (.tmp 4) (.tmp 20)⟩, ⟨(some 5), none, none, .mov (.tmp 21)⟩, ⟨(some 6), none, none, .mov (.tmp 23)⟩]), ([], [⟨(some 20), none, (some 7), .ld true 4 (.tmp 7)⟩, ⟨(some 21), none, (some 1001), .ld false 1 (.tmp 2)⟩, ⟨(some 22), none, none, .mov (.tmp 8)⟩, ⟨(some 23), none, none, .bin .gtr 3 (.tmp 22) (.val (.int .i64 0))⟩, ⟨none, none, (some 4), .st 4 (.tmp 4) (.tmp 20)⟩, ⟨(some 5), none, none, .mov (.tmp 21)⟩, ⟨(some 6), none, none, .mov (.tmp 23)⟩]), ([], [⟨(some 20), none, (some 7), .ld true 4 (.tmp 7)⟩, ⟨(some 21), none, (some 1002), .ld false 1 (.tmp 2)⟩, ⟨(some 22), none, none, .mov (.tmp 8)⟩, ⟨(some 23), none, none, .bin .gtr 3 (.tmp 22) (.val (.int .i64 0))⟩, ⟨none, none, (some 4), .st 4 (.tmp 4) (.tmp 20)⟩, ⟨(some 5), none, none, .mov (.tmp 21)⟩, ⟨(some 6), none, none, .mov (.tmp 23)⟩]), ([], [⟨(some 20), none, (some 7), .ld true 4 (.tmp 7)⟩, ⟨(some 21), none, (some 1003), .ld false 1 (.tmp 2)⟩, ⟨(some 22), none, none, .mov (.tmp 8)⟩, ⟨(some 23), none, none, .bin .gtr 3 (.tmp 22) (.val (.int .i64 0))⟩, ⟨none, none, (some 4), .st 4 (.tmp 4) (.tmp 20)⟩, ⟨(some 5), none, none, .mov (.tmp 21)⟩, ⟨(some 6), none, none, .mov (.tmp 23)⟩])] [2, 7, 8, 20, 21, 22, 23]
abbrev F_val_reader_1 : SFunc := ⟨24, (.seq c_val_reader_1_0 (.seq c_val_reader_1_1 (.seq c_val_reader_1_2 (.seq c_val_reader_1_3 .ret)))), [.cell true 4 4, .tmp 5, .tmp 6], false⟩
theorem tf_val_reader_1 : transFunc Go.Proofs.Tryz.prog 104 (hintT [(14, 1)]) (fpT [(3, [[(0, 7), (4, 4), (1, 1000)], [(0, 7), (4, 4), (1, 1001)], [(0, 7), (4, 4), (1, 1002)], [(0, 7), (4, 4), (1, 1003)]])]) (killT [(0, [5, 6]), (1, [0, 1, 9, 10, 11, 12, 13, 14, 15, 16]), (2, [17, 18, 19]), (3, [2, 7, 8, 20, 21, 22, 23])]) false = some F_val_reader_1 := by kernel_rfl
-- val.first
abbrev c_val_first_0 : SCode := .reg [([], [⟨(some 2), none, none, .mov (.val (.int .i32 0))⟩])] [2]
abbrev c_val_first_1 : SCode := .reg [([], [⟨(some 5), none, none, .mov (.tmp 0)⟩, ⟨(some 6), none, none, .bin .eql 9 (.tmp 5) (.val (.string ⟨#[]⟩))⟩])] [5]
abbrev c_val_first_2 : SCode := .reg [([], [⟨(some 2), none, none, .mov (.val (.int .i32 0))⟩])] [0, 6]
abbrev c_val_first_3 : SCode := .reg [([2036, 2037, 2038, 2039], [⟨(some 8), none, none, .mov (.tmp 0)⟩, ⟨(some 9), none, none, .call 149 0 [(.tmp 8)]⟩, ⟨(some 7), none, none, .mov (.tmp 9)⟩, ⟨(some 10), none, none, .ext (.tmp 7) 0⟩, ⟨(some 11), none, none, .ext (.tmp 7) 1⟩, ⟨(some 3), none, none, .mov (.tmp 10)⟩, ⟨(some 4), none, none, .mov (.tmp 11)⟩])] [0, 2, 4, 6, 7, 8, 9, 10, 11]
abbrev c_val_first_4 : SCode := .reg [([], [⟨(some 12), none, none, .mov (.tmp 3)⟩, ⟨(some 2), none, none, .mov (.tmp 12)⟩])] [3, 12]
abbrev F_val_first : SFunc := ⟨13, (.seq c_val_first_0 (.seq (.seq c_val_first_1 (.cond (.tmp 6) (.seq c_val_first_2 .ret) .skip)) (.seq c_val_first_3 (.seq c_val_first_4 .ret)))), [.tmp 2], false⟩
theorem tf_val_first : transFunc Go.Proofs.Tryz.prog 105 (hintT [(9, 0)]) (fpT []) (killT [(0, [2]), (1, [5]), (2, [0, 6]), (3, [0, 2, 4, 6, 7, 8, 9, 10, 11]), (4, [3, 12])]) false = some F_val_first := by kernel_rfl
-- val.quoted
abbrev c_val_quoted_0 : SCode := .reg [([], [⟨(some 2), none, none, .mov (.val (.string ⟨#[]⟩))⟩, ⟨(some 3), none, none, .mov (.val (.int .i64 0))⟩])] [2, 3]
abbrev c_val_quoted_1 : SCode := .reg [([], [⟨(some 4), none, none, .mov (.val (.slice none 0 0))⟩])] []
abbrev c_val_quoted_2 : SCode := .reg [([], [⟨(some 5), none, none, .mov (.val (.int .i64 1))⟩])] []
abbrev c_val_quoted_3 : SCode := .reg [([], [⟨(some 8), none, none, .mov (.tmp 5)⟩, ⟨(some 9), none, none, .mov (.tmp 0)⟩, ⟨(some 10), none, none, .slen (.tmp 9)⟩, ⟨(some 11), none, none, .bin .lss 3 (.tmp 8) (.tmp 10)⟩, ⟨(some 12), none, none, .mov (.tmp 11)⟩, ⟨(some 13), (some (12, true)), none, .mov (.tmp 4)⟩, ⟨(some 14), (some (12, true)), none, .len (.tmp 13)⟩, ⟨(some 15), (some (12, true)), none, .bin .leq 3 (.tmp 14) (.val (.int .i64 60))⟩, ⟨(some 16), none, none, .pick (.tmp 12) (.tmp 15) (.val (.bool false))⟩])] [8, 9, 10, 11, 12, 13, 14, 15]
abbrev c_val_quoted_4 : SCode := .reg [([2084, 2085, 2086, 2087], [⟨(some 18), none, none, .mov (.tmp 0)⟩, ⟨(some 19), none, none, .mov (.tmp 5)⟩, ⟨(some 20), none, none, .ssub (.tmp 18) (some (.tmp 19)) none⟩, ⟨(some 21), none, none, .call 149 0 [(.tmp 20)]⟩, ⟨(some 17), none, none, .mov (.tmp 21)⟩, ⟨(some 22), none, none, .ext (.tmp 17) 0⟩, ⟨(some 23), none, none, .ext (.tmp 17) 1⟩, ⟨(some 6), none, none, .mov (.tmp 22)⟩, ⟨(some 7), none, none, .mov (.tmp 23)⟩])] [16, 17, 18, 19, 20, 21, 22, 23]
abbrev c_val_quoted_5 : SCode := .reg [([], [⟨(some 24), none, none, .mov (.tmp 6)⟩])] [6]
abbrev c_val_quoted_6 : SCode := .reg [([], [⟨(some 26), none, none, .bin .eql 21 (.tmp 24) (.val (.int .i32 34))⟩, ⟨(some 25), none, none, .mov (.tmp 26)⟩])] [26]
abbrev c_val_quoted_7 : SCode := .reg [([2116, 2117, 2118, 2119], [⟨(some 27), none, none, .mov (.tmp 4)⟩, ⟨(some 28), none, none, .b2s (.tmp 27)⟩, ⟨(some 29), none, none, .call 64 0 [(.tmp 28)]⟩, ⟨(some 30), none, none, .un .not (.tmp 29)⟩])] [0, 7, 24, 25, 27, 28, 29]
abbrev c_val_quoted_8 : SCode := .reg [([], [⟨(some 2), none, none, .mov (.val (.string ⟨#[]⟩))⟩, ⟨(some 3), none, none, .mov (.val (.int .i64 0))⟩])] [4, 5, 30]
abbrev c_val_quoted_9 : SCode := .reg [([], [⟨(some 31), none, none, .mov (.tmp 4)⟩, ⟨(some 32), none, none, .b2s (.tmp 31)⟩, ⟨(some 33), none, none, .mov (.tmp 5)⟩, ⟨(some 34), none, none, .bin .add 3 (.tmp 33) (.val (.int .i64 1))⟩, ⟨(some 2), none, none, .mov (.tmp 32)⟩, ⟨(some 3), none, none, .mov (.tmp 34)⟩])] [4, 5, 30, 31, 32, 33, 34]
abbrev c_val_quoted_10 : SCode := .reg [([], [⟨(some 36), none, none, .bin .eql 21 (.tmp 24) (.val (.int .i32 92))⟩, ⟨(some 35), none, none, .mov (.tmp 36)⟩])] [24, 25, 36]
abbrev c_val_quoted_11 : SCode := .reg [([], [⟨(some 37), none, none, .mov (.tmp 5)⟩, ⟨(some 38), none, none, .bin .add 3 (.tmp 37) (.val (.int .i64 1))⟩, ⟨(some 5), none, none, .mov (.tmp 38)⟩])] [35, 37, 38]
abbrev c_val_quoted_12 : SCode := .reg [([], [⟨(some 39), none, none, .mov (.tmp 5)⟩, ⟨(some 40), none, none, .mov (.tmp 0)⟩, ⟨(some 41), none, none, .slen (.tmp 40)⟩, ⟨(some 42), none, none, .bin .eql 3 (.tmp 39) (.tmp 41)⟩, ⟨(some 43), none, none, .mov (.tmp 42)⟩, ⟨(some 44), (some (43, false)), none, .mov (.tmp 0)⟩, ⟨(some 45), (some (43, false)), none, .mov (.tmp 5)⟩, ⟨(some 46), (some (43, false)), none, .sidx (.tmp 44) (.tmp 45)⟩, ⟨(some 47), (some (43, false)), none, .bin .neq 5 (.tmp 46) (.val (.int .u8 34))⟩, ⟨(some 48), (some (43, false)), none, .mov (.tmp 47)⟩, ⟨(some 49), (some (48, true)), none, .mov (.tmp 0)⟩, ⟨(some 50), (some (48, true)), none, .mov (.tmp 5)⟩, ⟨(some 51), (some (48, true)), none, .sidx (.tmp 49) (.tmp 50)⟩, ⟨(some 52), (some (48, true)), none, .bin .neq 5 (.tmp 51) (.val (.int .u8 92))⟩, ⟨(some 53), (some (43, false)), none, .pick (.tmp 48) (.tmp 52) (.val (.bool false))⟩, ⟨(some 54), none, none, .pick (.tmp 43) (.val (.bool true)) (.tmp 53)⟩])] [39, 40, 41, 42, 43, 44, 45, 46, 47, 48, 49, 50, 51, 52, 53]
abbrev c_val_quoted_13 : SCode := .reg [([], [⟨(some 2), none, none, .mov (.val (.string ⟨#[]⟩))⟩, ⟨(some 3), none, none, .mov (.val (.int .i64 0))⟩])] [0, 4, 5, 7, 54]
abbrev c_val_quoted_14 : SCode := .reg [([], [⟨(some 55), none, none, .mov (.tmp 4)⟩, ⟨(some 56), none, none, .mov (.tmp 0)⟩, ⟨(some 57), none, none, .mov (.tmp 5)⟩, ⟨(some 58), none, none, .mov (.tmp 5)⟩, ⟨(some 59), none, none, .mov (.tmp 7)⟩, ⟨(some 60), none, none, .bin .add 3 (.tmp 58) (.tmp 59)⟩, ⟨(some 61), none, none, .ssub (.tmp 56) (some (.tmp 57)) (some (.tmp 60))⟩, ⟨(some 62), none, none, .appS 5 1 (.tmp 55) (.tmp 61)⟩, ⟨(some 4), none, none, .mov (.tmp 62)⟩]), ([62], [⟨(some 55), none, none, .mov (.tmp 4)⟩, ⟨(some 56), none, none, .mov (.tmp 0)⟩, ⟨(some 57), none, none, .mov (.tmp 5)⟩, ⟨(some 58), none, none, .mov (.tmp 5)⟩, ⟨(some 59), none, none, .mov (.tmp 7)⟩, ⟨(some 60), none, none, .bin .add 3 (.tmp 58) (.tmp 59)⟩, ⟨(some 61), none, none, .ssub (.tmp 56) (some (.tmp 57)) (some (.tmp 60))⟩, ⟨(some 62), none, none, .appNS 5 1 (.tmp 55) (.tmp 61)⟩, ⟨(some 4), none, none, .mov (.tmp 62)⟩])] [2, 3, 35, 54, 55, 56, 57, 58, 59, 60, 61, 62]
abbrev c_val_quoted_15 : SCode := .reg [([], [⟨(some 63), none, none, .mov (.tmp 5)⟩, ⟨(some 64), none, none, .mov (.tmp 7)⟩, ⟨(some 65), none, none, .bin .add 3 (.tmp 63) (.tmp 64)⟩, ⟨(some 5), none, none, .mov (.tmp 65)⟩])] [7, 63, 64, 65]
abbrev c_val_quoted_16 : SCode := (.seq (.seq c_val_quoted_3 (.cond (.tmp 16) .skip (.exit 0))) (.block 1 (.seq c_val_quoted_4 (.seq (.seq c_val_quoted_5 (.block 2 (.seq c_val_quoted_6 (.cond (.tmp 25) (.seq (.seq c_val_quoted_7 (.cond (.tmp 30) (.seq c_val_quoted_8 .ret) .skip)) (.seq c_val_quoted_9 .ret)) (.seq c_val_quoted_10 (.cond (.tmp 35) (.seq c_val_quoted_11 (.seq c_val_quoted_12 (.cond (.tmp 54) (.seq c_val_quoted_13 .ret) .skip))) .skip)))))) (.seq c_val_quoted_14 c_val_quoted_15)))))
abbrev c_val_quoted_17 : SCode := .reg [([], [⟨(some 2), none, none, .mov (.val (.string ⟨#[]⟩))⟩, ⟨(some 3), none, none, .mov (.val (.int .i64 0))⟩])] [0, 4, 5]
abbrev F_val_quoted : SFunc := ⟨66, (.seq c_val_quoted_0 (.seq c_val_quoted_1 (.seq (.seq c_val_quoted_2 (.block 0 (.loop c_val_quoted_16))) (.seq c_val_quoted_17 .ret)))), [.tmp 2, .tmp 3], false⟩
theorem tf_val_quoted : transFunc Go.Proofs.Tryz.prog 106 (hintT [(21, 0), (29, 0)]) (fpT []) (killT [(0, [2, 3]), (3, [8, 9, 10, 11, 12, 13, 14, 15]), (4, [16, 17, 18, 19, 20, 21, 22, 23]), (5, [6]), (6, [26]), (7, [0, 7, 24, 25, 27, 28, 29]), (8, [4, 5, 30]), (9, [4, 5, 30, 31, 32, 33, 34]), (10, [24, 25, 36]), (11, [35, 37, 38]), (12, [39, 40, 41, 42, 43, 44, 45, 46, 47, 48, 49, 50, 51, 52, 53]), (13, [0, 4, 5, 7, 54]), (14, [2, 3, 35, 54, 55, 56, 57, 58, 59, 60, 61, 62]), (15, [7, 63, 64, 65]), (16, [0, 4, 5])]) false = some F_val_quoted := by kernel_rfl
-- val.reference
abbrev c_val_reference_0 : SCode := .reg [([], [⟨(some 2), none, none, .mov (.val (.int .i64 0))⟩, ⟨(some 3), none, none, .mov (.val (.int .i64 0))⟩])] [2, 3]
abbrev c_val_reference_1 : SCode := .reg [([2036, 2037, 2038, 2039], [⟨(some 7), none, none, .mov (.tmp 0)⟩, ⟨(some 8), none, none, .ssub (.tmp 7) (some (.val (.int .i64 1))) none⟩, ⟨(some 9), none, none, .call 108 0 [(.tmp 8), (.val (.int .i64 (-20))), (.val (.int .i64 100000))]⟩, ⟨(some 6), none, none, .mov (.tmp 9)⟩, ⟨(some 10), none, none, .ext (.tmp 6) 0⟩, ⟨(some 11), none, none, .ext (.tmp 6) 1⟩, ⟨(some 4), none, none, .mov (.tmp 10)⟩, ⟨(some 5), none, none, .mov (.tmp 11)⟩])] [0, 6, 7, 8, 9, 10, 11]
abbrev c_val_reference_2 : SCode := .reg [([], [⟨(some 12), none, none, .mov (.tmp 4)⟩, ⟨(some 13), none, none, .bin .eql 3 (.tmp 12) (.val (.int .i64 0))⟩])] [12]
abbrev c_val_reference_3 : SCode := .reg [([], [⟨(some 2), none, none, .mov (.val (.int .i64 0))⟩, ⟨(some 3), none, none, .mov (.val (.int .i64 0))⟩])] [4, 5, 13]
abbrev c_val_reference_4 : SCode := .reg [([], [⟨(some 14), none, none, .mov (.tmp 4)⟩, ⟨(some 15), none, none, .mov (.tmp 5)⟩, ⟨(some 16), none, none, .bin .add 3 (.tmp 15) (.val (.int .i64 1))⟩, ⟨(some 2), none, none, .mov (.tmp 14)⟩, ⟨(some 3), none, none, .mov (.tmp 16)⟩])] [4, 5, 13, 14, 15, 16]
abbrev F_val_reference : SFunc := ⟨17, (.seq c_val_reference_0 (.seq c_val_reference_1 (.seq (.seq c_val_reference_2 (.cond (.tmp 13) (.seq c_val_reference_3 .ret) .skip)) (.seq c_val_reference_4 .ret)))), [.tmp 2, .tmp 3], false⟩
theorem tf_val_reference : transFunc Go.Proofs.Tryz.prog 107 (hintT [(9, 0)]) (fpT []) (killT [(0, [2, 3]), (1, [0, 6, 7, 8, 9, 10, 11]), (2, [12]), (3, [4, 5, 13]), (4, [4, 5, 13, 14, 15, 16])]) false = some F_val_reference := by kernel_rfl
-- val.number
abbrev c_val_number_0 : SCode := .reg [([], [⟨(some 6), none, none, .mov (.val (.int .i64 0))⟩, ⟨(some 7), none, none, .mov (.val (.int .i64 0))⟩])] [6, 7]
abbrev c_val_number_1 : SCode := .reg [([], [⟨(some 8), none, none, .mov (.val (.int .i64 0))⟩, ⟨(some 9), none, none, .mov (.val (.int .i64 0))⟩, ⟨(some 10), none, none, .mov (.val (.int .i64 0))⟩, ⟨(some 11), none, none, .mov (.val (.int .i64 0))⟩])] []
abbrev c_val_number_2 : SCode := .reg [([2060, 2061, 2062, 2063], [⟨(some 14), none, none, .mov (.tmp 0)⟩, ⟨(some 15), none, none, .call 105 0 [(.tmp 14)]⟩, ⟨(some 16), none, none, .bin .eql 21 (.tmp 15) (.val (.int .i32 45))⟩])] [14, 15]
abbrev c_val_number_3 : SCode := .reg [([], [⟨(some 11), none, none, .mov (.val (.int .i64 1))⟩])] [16]
abbrev c_val_number_4 : SCode := .reg [([], [⟨(some 17), none, none, .mov (.tmp 11)⟩, ⟨(some 12), none, none, .mov (.tmp 17)⟩])] [16, 17]
abbrev c_val_number_5 : SCode := .reg [([], [⟨(some 18), none, none, .mov (.tmp 11)⟩, ⟨(some 19), none, none, .mov (.tmp 0)⟩, ⟨(some 20), none, none, .slen (.tmp 19)⟩, ⟨(some 21), none, none, .bin .lss 3 (.tmp 18) (.tmp 20)⟩, ⟨(some 22), none, none, .mov (.tmp 21)⟩, ⟨(some 23), (some (22, true)), none, .mov (.tmp 0)⟩, ⟨(some 24), (some (22, true)), none, .mov (.tmp 11)⟩, ⟨(some 25), (some (22, true)), none, .sidx (.tmp 23) (.tmp 24)⟩, ⟨(some 26), (some (22, true)), none, .bin .geq 5 (.tmp 25) (.val (.int .u8 48))⟩, ⟨(some 27), none, none, .pick (.tmp 22) (.tmp 26) (.val (.bool false))⟩, ⟨(some 28), none, none, .mov (.tmp 27)⟩, ⟨(some 29), (some (28, true)), none, .mov (.tmp 0)⟩, ⟨(some 30), (some (28, true)), none, .mov (.tmp 11)⟩, ⟨(some 31), (some (28, true)), none, .sidx (.tmp 29) (.tmp 30)⟩, ⟨(some 32), (some (28, true)), none, .bin .leq 5 (.tmp 31) (.val (.int .u8 57))⟩, ⟨(some 33), none, none, .pick (.tmp 28) (.tmp 32) (.val (.bool false))⟩])] [18, 19, 20, 21, 22, 23, 24, 25, 26, 27, 28, 29, 30, 31, 32]
abbrev c_val_number_6 : SCode := .reg [([], [⟨(some 36), none, none, .mov (.tmp 8)⟩, ⟨(some 37), none, none, .bin .mul 3 (.val (.int .i64 10)) (.tmp 36)⟩, ⟨(some 38), none, none, .mov (.tmp 0)⟩, ⟨(some 39), none, none, .mov (.tmp 11)⟩, ⟨(some 40), none, none, .sidx (.tmp 38) (.tmp 39)⟩, ⟨(some 41), none, none, .bin .sub 5 (.tmp 40) (.val (.int .u8 48))⟩, ⟨(some 42), none, none, .cvi .i64 (.tmp 41)⟩, ⟨(some 43), none, none, .bin .add 3 (.tmp 37) (.tmp 42)⟩, ⟨(some 8), none, none, .mov (.tmp 43)⟩])] [33, 36, 37, 38, 39, 40, 41, 42, 43]
abbrev c_val_number_7 : SCode := .reg [([], [⟨(some 44), none, none, .mov (.tmp 8)⟩, ⟨(some 45), none, none, .bin .gtr 3 (.tmp 44) (.val (.int .i64 1000000000000000))⟩, ⟨(some 46), none, none, .mov (.tmp 45)⟩, ⟨(some 47), (some (46, false)), none, .mov (.tmp 12)⟩, ⟨(some 48), (some (46, false)), none, .bin .eql 3 (.tmp 47) (.val (.int .i64 1))⟩, ⟨(some 49), (some (46, false)), none, .mov (.tmp 48)⟩, ⟨(some 50), (some (49, true)), none, .mov (.tmp 8)⟩, ⟨(some 51), (some (49, true)), none, .bin .eql 3 (.tmp 50) (.val (.int .i64 0))⟩, ⟨(some 52), (some (46, false)), none, .pick (.tmp 49) (.tmp 51) (.val (.bool false))⟩, ⟨(some 53), none, none, .pick (.tmp 46) (.val (.bool true)) (.tmp 52)⟩])] [44, 45, 46, 47, 48, 49, 50, 51, 52]
abbrev c_val_number_8 : SCode := .reg [([], [⟨(some 54), none, none, .mov (.tmp 8)⟩, ⟨(some 13), none, none, .mov (.tmp 54)⟩])] [53, 54]
abbrev c_val_number_9 : SCode := .reg [([], [⟨(some 55), none, none, .mov (.tmp 12)⟩, ⟨(some 56), none, none, .bin .eql 3 (.tmp 55) (.val (.int .i64 1))⟩])] [55]
abbrev c_val_number_10 : SCode := .reg [([], [⟨(some 57), none, none, .mov (.tmp 8)⟩, ⟨(some 58), none, none, .un .neg (.tmp 57)⟩, ⟨(some 13), none, none, .mov (.tmp 58)⟩])] [56, 57, 58]
abbrev c_val_number_11 : SCode := .reg [([], [⟨(some 59), none, none, .mov (.tmp 13)⟩, ⟨(some 60), none, none, .mov (.tmp 1)⟩, ⟨(some 61), none, none, .bin .geq 3 (.tmp 59) (.tmp 60)⟩, ⟨(some 62), none, none, .mov (.tmp 61)⟩, ⟨(some 63), (some (62, true)), none, .mov (.tmp 13)⟩, ⟨(some 64), (some (62, true)), none, .mov (.tmp 2)⟩, ⟨(some 65), (some (62, true)), none, .bin .leq 3 (.tmp 63) (.tmp 64)⟩, ⟨(some 66), none, none, .pick (.tmp 62) (.tmp 65) (.val (.bool false))⟩])] [56, 59, 60, 61, 62, 63, 64, 65]
abbrev c_val_number_12 : SCode := .reg [([], [⟨(some 67), none, none, .mov (.tmp 13)⟩, ⟨(some 68), none, none, .mov (.tmp 11)⟩, ⟨(some 69), none, none, .bin .add 3 (.tmp 68) (.val (.int .i64 1))⟩, ⟨(some 9), none, none, .mov (.tmp 67)⟩, ⟨(some 10), none, none, .mov (.tmp 69)⟩])] [13, 66, 67, 68, 69]
abbrev c_val_number_13 : SCode := .reg [([], [⟨(some 70), none, none, .mov (.tmp 8)⟩, ⟨(some 71), none, none, .bin .eql 3 (.tmp 70) (.val (.int .i64 0))⟩])] [13, 66, 70]
abbrev c_val_number_14 : SCode := .reg [([], [⟨(some 34), none, none, .mov (.tmp 11)⟩, ⟨(some 35), none, none, .bin .add 3 (.tmp 34) (.val (.int .i64 1))⟩, ⟨(some 11), none, none, .mov (.tmp 35)⟩])] [34, 35, 71]
abbrev c_val_number_15 : SCode := (.seq (.seq c_val_number_5 (.cond (.tmp 33) .skip (.exit 0))) (.seq (.block 1 (.seq c_val_number_6 (.seq (.seq c_val_number_7 (.cond (.tmp 53) (.exit 0) .skip)) (.seq c_val_number_8 (.seq (.seq c_val_number_9 (.cond (.tmp 56) c_val_number_10 .skip)) (.seq (.seq c_val_number_11 (.cond (.tmp 66) c_val_number_12 .skip)) (.seq c_val_number_13 (.cond (.tmp 71) (.exit 0) .skip)))))))) c_val_number_14))
abbrev c_val_number_16 : SCode := .reg [([], [⟨(some 72), none, none, .mov (.tmp 9)⟩, ⟨(some 73), none, none, .mov (.tmp 10)⟩, ⟨(some 6), none, none, .mov (.tmp 72)⟩, ⟨(some 7), none, none, .mov (.tmp 73)⟩])] [0, 1, 2, 8, 9, 10, 11, 12, 72, 73]
abbrev F_val_number : SFunc := ⟨74, (.seq c_val_number_0 (.seq c_val_number_1 (.seq (.seq c_val_number_2 (.cond (.tmp 16) c_val_number_3 .skip)) (.seq (.seq c_val_number_4 (.block 0 (.loop c_val_number_15))) (.seq c_val_number_16 .ret))))), [.tmp 6, .tmp 7], false⟩
theorem tf_val_number : transFunc Go.Proofs.Tryz.prog 108 (hintT [(15, 0)]) (fpT []) (killT [(0, [6, 7]), (2, [14, 15]), (3, [16]), (4, [16, 17]), (5, [18, 19, 20, 21, 22, 23, 24, 25, 26, 27, 28, 29, 30, 31, 32]), (7, [33, 36, 37, 38, 39, 40, 41, 42, 43]), (8, [44, 45, 46, 47, 48, 49, 50, 51, 52]), (9, [53, 54]), (10, [55]), (11, [56, 57, 58]), (12, [56, 59, 60, 61, 62, 63, 64, 65]), (13, [13, 66, 67, 68, 69]), (14, [13, 66, 70]), (6, [34, 35, 71]), (15, [0, 1, 2, 8, 9, 10, 11, 12, 72, 73])]) false = some F_val_number := by kernel_rfl
-- val.sign
abbrev c_val_sign_0 : SCode := .reg [([1], [⟨(some 1), none, none, .box (.tmp 0)⟩, ⟨(some 2), none, none, .mov (.val .nilFunc)⟩])] [0, 2]
abbrev c_val_sign_1 : SCode := .reg [([], [⟨(some 3), none, none, .mkf (.func 150) [] [(.tmp 1)]⟩, ⟨(some 2), none, none, .mov (.tmp 3)⟩])] [1, 3]
abbrev F_val_sign : SFunc := ⟨4, (.seq c_val_sign_0 (.seq c_val_sign_1 .ret)), [.tmp 2], false⟩
theorem tf_val_sign : transFunc Go.Proofs.Tryz.prog 109 (hintT []) (fpT []) (killT [(0, [0, 2]), (1, [1, 3])]) false = some F_val_sign := by kernel_rfl
-- (*val.decoder).number
abbrev c___val_decoder__number_0 : SCode := .reg [([], [⟨(some 6), none, none, .mov (.val (.int .i64 0))⟩, ⟨(some 7), none, none, .mov (.val (.int .i64 0))⟩])] [6, 7]
abbrev c___val_decoder__number_1 : SCode := .reg [([2080, 2081, 2082, 2083], [⟨(some 12), none, none, .mov (.tmp 0)⟩, ⟨(some 13), none, none, .nchk (.tmp 12)⟩, ⟨(some 14), none, none, .fldA 0 (.tmp 13)⟩, ⟨(some 15), none, none, .ld false 1 (.tmp 14)⟩, ⟨(some 16), none, none, .mov (.tmp 0)⟩, ⟨(some 17), none, none, .nchk (.tmp 16)⟩, ⟨(some 18), none, none, .fldA 1 (.tmp 17)⟩, ⟨(some 19), none, none, .ld false 1 (.tmp 18)⟩, ⟨(some 20), none, none, .call 152 0 [(.tmp 15), (.tmp 19)]⟩, ⟨(some 11), none, none, .mov (.tmp 20)⟩, ⟨(some 21), none, none, .ext (.tmp 11) 0⟩, ⟨(some 22), none, none, .ext (.tmp 11) 1⟩, ⟨(some 23), none, none, .ext (.tmp 11) 2⟩, ⟨(some 8), none, none, .mov (.tmp 21)⟩, ⟨(some 9), none, none, .mov (.tmp 22)⟩, ⟨(some 10), none, none, .mov (.tmp 23)⟩])] [11, 12, 13, 14, 15, 16, 17, 18, 19, 20, 21, 22, 23]
abbrev c___val_decoder__number_2 : SCode := .reg [([], [⟨(some 24), none, none, .mov (.tmp 10)⟩, ⟨(some 25), none, none, .bin .neq 28 (.tmp 24) (.val (.int .i64 0))⟩])] [10, 24]
abbrev c___val_decoder__number_3 : SCode := .reg [([], [⟨(some 6), none, none, .mov (.val (.int .i64 0))⟩, ⟨(some 7), none, none, .mov (.val (.int .i64 10))⟩])] [0, 1, 2, 8, 9, 25]
abbrev c___val_decoder__number_4 : SCode := .reg [([], [⟨(some 26), none, none, .mov (.tmp 8)⟩, ⟨(some 27), none, none, .mov (.tmp 1)⟩, ⟨(some 28), none, none, .bin .lss 3 (.tmp 26) (.tmp 27)⟩, ⟨(some 29), none, none, .mov (.tmp 28)⟩, ⟨(some 30), (some (29, false)), none, .mov (.tmp 8)⟩, ⟨(some 31), (some (29, false)), none, .mov (.tmp 2)⟩, ⟨(some 32), (some (29, false)), none, .bin .gtr 3 (.tmp 30) (.tmp 31)⟩, ⟨(some 33), none, none, .pick (.tmp 29) (.val (.bool true)) (.tmp 32)⟩])] [1, 2, 6, 7, 25, 26, 27, 28, 29, 30, 31, 32]
abbrev c___val_decoder__number_5 : SCode := .reg [([], [⟨(some 6), none, none, .mov (.val (.int .i64 0))⟩, ⟨(some 7), none, none, .mov (.val (.int .i64 30))⟩])] [0, 8, 9, 33]
abbrev c___val_decoder__number_6 : SCode := .reg [([], [⟨(some 34), none, none, .mov (.tmp 0)⟩, ⟨(some 35), none, none, .mov (.tmp 9)⟩, ⟨(some 36), none, none, .nchk (.tmp 34)⟩, ⟨(some 37), none, none, .fldA 1 (.tmp 36)⟩, ⟨none, none, none, .st 1 (.tmp 37) (.tmp 35)⟩])] [0, 6, 7, 9, 33, 34, 35, 36, 37]
abbrev c___val_decoder__number_7 : SCode := .reg [([], [⟨(some 38), none, none, .mov (.tmp 8)⟩, ⟨(some 6), none, none, .mov (.tmp 38)⟩, ⟨(some 7), none, none, .mov (.val (.int .i64 0))⟩])] [8, 38]
abbrev F___val_decoder__number : SFunc := ⟨39, (.seq c___val_decoder__number_0 (.seq c___val_decoder__number_1 (.seq (.seq c___val_decoder__number_2 (.cond (.tmp 25) (.seq c___val_decoder__number_3 .ret) .skip)) (.seq (.seq c___val_decoder__number_4 (.cond (.tmp 33) (.seq c___val_decoder__number_5 .ret) .skip)) (.seq c___val_decoder__number_6 (.seq c___val_decoder__number_7 .ret)))))), [.tmp 6, .tmp 7], false⟩
theorem tf___val_decoder__number : transFunc Go.Proofs.Tryz.prog 112 (hintT [(20, 0)]) (fpT []) (killT [(0, [6, 7]), (1, [11, 12, 13, 14, 15, 16, 17, 18, 19, 20, 21, 22, 23]), (2, [10, 24]), (3, [0, 1, 2, 8, 9, 25]), (4, [1, 2, 6, 7, 25, 26, 27, 28, 29, 30, 31, 32]), (5, [0, 8, 9, 33]), (6, [0, 6, 7, 9, 33, 34, 35, 36, 37]), (7, [8, 38])]) false = some F___val_decoder__number := by kernel_rfl
-- (*val.decoder).text
abbrev c___val_decoder__text_0 : SCode := .reg [([], [⟨(some 2), none, none, .mov (.val (.string ⟨#[]⟩))⟩, ⟨(some 3), none, none, .mov (.val (.int .i64 0))⟩])] [2, 3]
abbrev c___val_decoder__text_1 : SCode := .reg [([2064, 2065, 2066, 2067], [⟨(some 8), none, none, .mov (.tmp 0)⟩, ⟨(some 9), none, none, .nchk (.tmp 8)⟩, ⟨(some 10), none, none, .fldA 0 (.tmp 9)⟩, ⟨(some 11), none, none, .ld false 1 (.tmp 10)⟩, ⟨(some 12), none, none, .mov (.tmp 0)⟩, ⟨(some 13), none, none, .nchk (.tmp 12)⟩, ⟨(some 14), none, none, .fldA 1 (.tmp 13)⟩, ⟨(some 15), none, none, .ld false 1 (.tmp 14)⟩, ⟨(some 16), none, none, .call 153 0 [(.tmp 11), (.tmp 15)]⟩, ⟨(some 7), none, none, .mov (.tmp 16)⟩, ⟨(some 17), none, none, .ext (.tmp 7) 0⟩, ⟨(some 18), none, none, .ext (.tmp 7) 1⟩, ⟨(some 19), none, none, .ext (.tmp 7) 2⟩, ⟨(some 4), none, none, .mov (.tmp 17)⟩, ⟨(some 5), none, none, .mov (.tmp 18)⟩, ⟨(some 6), none, none, .mov (.tmp 19)⟩])] [7, 8, 9, 10, 11, 12, 13, 14, 15, 16, 17, 18, 19]
abbrev c___val_decoder__text_2 : SCode := .reg [([], [⟨(some 20), none, none, .mov (.tmp 6)⟩, ⟨(some 21), none, none, .bin .neq 28 (.tmp 20) (.val (.int .i64 0))⟩])] [6, 20]
abbrev c___val_decoder__text_3 : SCode := .reg [([], [⟨(some 2), none, none, .mov (.val (.string ⟨#[]⟩))⟩, ⟨(some 3), none, none, .mov (.val (.int .i64 10))⟩])] [0, 4, 5, 21]
abbrev c___val_decoder__text_4 : SCode := .reg [([2092, 2093, 2094, 2095], [⟨(some 22), none, none, .mov (.tmp 4)⟩, ⟨(some 23), none, none, .call 64 0 [(.tmp 22)]⟩, ⟨(some 24), none, none, .un .not (.tmp 23)⟩])] [2, 3, 21, 22, 23]
abbrev c___val_decoder__text_5 : SCode := .reg [([], [⟨(some 2), none, none, .mov (.val (.string ⟨#[]⟩))⟩, ⟨(some 3), none, none, .mov (.val (.int .i64 30))⟩])] [0, 4, 5, 24]
abbrev c___val_decoder__text_6 : SCode := .reg [([], [⟨(some 25), none, none, .mov (.tmp 0)⟩, ⟨(some 26), none, none, .mov (.tmp 5)⟩, ⟨(some 27), none, none, .nchk (.tmp 25)⟩, ⟨(some 28), none, none, .fldA 1 (.tmp 27)⟩, ⟨none, none, none, .st 1 (.tmp 28) (.tmp 26)⟩])] [0, 2, 3, 5, 24, 25, 26, 27, 28]
abbrev c___val_decoder__text_7 : SCode := .reg [([], [⟨(some 29), none, none, .mov (.tmp 4)⟩, ⟨(some 2), none, none, .mov (.tmp 29)⟩, ⟨(some 3), none, none, .mov (.val (.int .i64 0))⟩])] [4, 29]
abbrev F___val_decoder__text : SFunc := ⟨30, (.seq c___val_decoder__text_0 (.seq c___val_decoder__text_1 (.seq (.seq c___val_decoder__text_2 (.cond (.tmp 21) (.seq c___val_decoder__text_3 .ret) .skip)) (.seq (.seq c___val_decoder__text_4 (.cond (.tmp 24) (.seq c___val_decoder__text_5 .ret) .skip)) (.seq c___val_decoder__text_6 (.seq c___val_decoder__text_7 .ret)))))), [.tmp 2, .tmp 3], false⟩
theorem tf___val_decoder__text : transFunc Go.Proofs.Tryz.prog 113 (hintT [(16, 0), (23, 0)]) (fpT []) (killT [(0, [2, 3]), (1, [7, 8, 9, 10, 11, 12, 13, 14, 15, 16, 17, 18, 19]), (2, [6, 20]), (3, [0, 4, 5, 21]), (4, [2, 3, 21, 22, 23]), (5, [0, 4, 5, 24]), (6, [0, 2, 3, 5, 24, 25, 26, 27, 28]), (7, [4, 29])]) false = some F___val_decoder__text := by kernel_rfl
-- (*val.decoder).items
abbrev c___val_decoder__items_0 : SCode := .reg [([], [⟨(some 2), none, none, .mov (.val (.slice none 0 0))⟩, ⟨(some 3), none, none, .mov (.val (.int .i64 0))⟩])] [2, 3]
abbrev c___val_decoder__items_1 : SCode := .reg [([2044, 2045, 2046, 2047], [⟨(some 10), none, none, .mov (.tmp 0)⟩, ⟨(some 11), none, none, .call 112 1 [(.tmp 10), (.val (.int .i64 0)), (.val (.int .i64 12))]⟩, ⟨(some 9), none, none, .mov (.tmp 11)⟩, ⟨(some 12), none, none, .ext (.tmp 9) 0⟩, ⟨(some 13), none, none, .ext (.tmp 9) 1⟩, ⟨(some 4), none, none, .mov (.tmp 12)⟩, ⟨(some 5), none, none, .mov (.tmp 13)⟩])] [9, 10, 11, 12, 13]
abbrev c___val_decoder__items_2 : SCode := .reg [([], [⟨(some 14), none, none, .mov (.tmp 5)⟩, ⟨(some 15), none, none, .bin .neq 28 (.tmp 14) (.val (.int .i64 0))⟩])] [14]
abbrev c___val_decoder__items_3 : SCode := .reg [([], [⟨(some 16), none, none, .mov (.tmp 5)⟩, ⟨(some 2), none, none, .mov (.val (.slice none 0 0))⟩, ⟨(some 3), none, none, .mov (.tmp 16)⟩])] [0, 4, 5, 15, 16]
abbrev c___val_decoder__items_4 : SCode := .reg [([], [⟨(some 6), none, none, .mov (.val (.slice none 0 0))⟩])] [2, 3, 5, 15]
abbrev c___val_decoder__items_5 : SCode := .reg [([], [⟨(some 17), none, none, .mov (.tmp 4)⟩, ⟨(some 18), none, none, .mov (.val (.int .i64 0))⟩])] [4]
abbrev c___val_decoder__items_6 : SCode := .reg [([], [⟨(some 19), none, none, .bin .lss 3 (.tmp 18) (.tmp 17)⟩])] []
abbrev c___val_decoder__items_7 : SCode := .reg [([2088, 2089, 2090, 2091, 7], [⟨(some 21), none, none, .mov (.tmp 0)⟩, ⟨(some 22), none, none, .call 59 1 [(.tmp 21), (.val (.int .i64 4))]⟩, ⟨(some 20), none, none, .mov (.tmp 22)⟩, ⟨(some 23), none, none, .ext (.tmp 20) 0⟩, ⟨(some 24), none, none, .ext (.tmp 20) 1⟩, ⟨(some 7), none, none, .new [(.int .i64 0), (.int .i64 0), (.string ⟨#[]⟩), (.slice none 0 0)]⟩, ⟨none, none, none, .st 4 (.tmp 7) (.tmp 23)⟩, ⟨(some 8), none, none, .mov (.tmp 24)⟩])] [19, 20, 21, 22, 23, 24]
abbrev c___val_decoder__items_8 : SCode := .reg [([], [⟨(some 25), none, none, .mov (.tmp 8)⟩, ⟨(some 26), none, none, .bin .neq 28 (.tmp 25) (.val (.int .i64 0))⟩])] [25]
abbrev c___val_decoder__items_9 : SCode := .reg [([], [⟨(some 27), none, none, .mov (.tmp 8)⟩, ⟨(some 2), none, none, .mov (.val (.slice none 0 0))⟩, ⟨(some 3), none, none, .mov (.tmp 27)⟩])] [0, 6, 7, 8, 17, 18, 26, 27]
abbrev c___val_decoder__items_10 : SCode := .reg [([], [⟨(some 28), none, none, .mov (.tmp 6)⟩, ⟨(some 29), none, none, .ld true 4 (.tmp 7)⟩, ⟨(some 30), none, none, .bsl 4 [(.tmp 29)]⟩, ⟨(some 31), none, none, .app 42 4 56 (.tmp 28) (.tmp 30)⟩, ⟨(some 6), none, none, .mov (.tmp 31)⟩]), ([31], [⟨(some 28), none, none, .mov (.tmp 6)⟩, ⟨(some 29), none, none, .ld true 4 (.tmp 7)⟩, ⟨(some 30), none, none, .bsl 4 [(.tmp 29)]⟩, ⟨(some 31), none, none, .appN 42 4 56 (.tmp 28) (.tmp 30)⟩, ⟨(some 6), none, none, .mov (.tmp 31)⟩])] [2, 3, 7, 8, 26, 28, 29, 30, 31]
abbrev c___val_decoder__items_11 : SCode := .reg [([], [⟨(some 32), none, none, .bin .add 3 (.tmp 18) (.val (.int .i64 1))⟩, ⟨(some 18), none, none, .mov (.tmp 32)⟩])] [32]
abbrev c___val_decoder__items_12 : SCode := (.seq c___val_decoder__items_6 (.seq (.cond (.tmp 19) .skip (.exit 0)) (.seq (.block 1 (.seq c___val_decoder__items_7 (.seq (.seq c___val_decoder__items_8 (.cond (.tmp 26) (.seq c___val_decoder__items_9 .ret) .skip)) c___val_decoder__items_10))) c___val_decoder__items_11)))
abbrev c___val_decoder__items_13 : SCode := .reg [([], [⟨(some 33), none, none, .mov (.tmp 6)⟩, ⟨(some 2), none, none, .mov (.tmp 33)⟩, ⟨(some 3), none, none, .mov (.val (.int .i64 0))⟩])] [0, 6, 17, 18, 33]
abbrev F___val_decoder__items : SFunc := ⟨34, (.seq c___val_decoder__items_0 (.seq c___val_decoder__items_1 (.seq (.seq c___val_decoder__items_2 (.cond (.tmp 15) (.seq c___val_decoder__items_3 .ret) .skip)) (.seq c___val_decoder__items_4 (.seq (.seq c___val_decoder__items_5 (.block 0 (.loop c___val_decoder__items_12))) (.seq c___val_decoder__items_13 .ret)))))), [.tmp 2, .tmp 3], false⟩
theorem tf___val_decoder__items : transFunc Go.Proofs.Tryz.prog 114 (hintT [(11, 1), (22, 1), (30, 0)]) (fpT []) (killT [(0, [2, 3]), (1, [9, 10, 11, 12, 13]), (2, [14]), (3, [0, 4, 5, 15, 16]), (4, [2, 3, 5, 15]), (5, [4]), (7, [19, 20, 21, 22, 23, 24]), (8, [25]), (9, [0, 6, 7, 8, 17, 18, 26, 27]), (10, [2, 3, 7, 8, 26, 28, 29, 30, 31]), (11, [32]), (12, [0, 6, 17, 18, 33])]) false = some F___val_decoder__items := by kernel_rfl
-- val.plain
abbrev c_val_plain_0 : SCode := .reg [([], [⟨(some 2), none, none, .mov (.val (.bool false))⟩])] [2]
abbrev c_val_plain_1 : SCode := .reg [([], [⟨(some 3), none, none, .mov (.tmp 0)⟩, ⟨(some 4), none, none, .bin .geq 21 (.tmp 3) (.val (.int .i32 32))⟩, ⟨(some 5), none, none, .mov (.tmp 4)⟩, ⟨(some 6), (some (5, true)), none, .mov (.tmp 0)⟩, ⟨(some 7), (some (5, true)), none, .bin .neq 21 (.tmp 6) (.val (.int .i32 127))⟩, ⟨(some 8), none, none, .pick (.tmp 5) (.tmp 7) (.val (.bool false))⟩, ⟨(some 2), none, none, .mov (.tmp 8)⟩])] [0, 3, 4, 5, 6, 7, 8]
abbrev F_val_plain : SFunc := ⟨9, (.seq c_val_plain_0 (.seq c_val_plain_1 .ret)), [.tmp 2], false⟩
theorem tf_val_plain : transFunc Go.Proofs.Tryz.prog 120 (hintT []) (fpT []) (killT [(0, [2]), (1, [0, 3, 4, 5, 6, 7, 8])]) false = some F_val_plain := by kernel_rfl
-- slices.IndexFunc[[]api.Val,api.Val]
abbrev c_slices_IndexFunc___api_Val_api_Val__0 : SCode := .reg [([], [⟨(some 4), none, none, .mov (.val (.int .i64 0))⟩])] [4]
abbrev c_slices_IndexFunc___api_Val_api_Val__1 : SCode := .reg [([], [⟨(some 6), none, none, .mov (.tmp 0)⟩, ⟨(some 7), none, none, .len (.tmp 6)⟩, ⟨(some 8), none, none, .mov (.val (.int .i64 0))⟩])] [6]
abbrev c_slices_IndexFunc___api_Val_api_Val__2 : SCode := .reg [([], [⟨(some 9), none, none, .bin .lss 3 (.tmp 8) (.tmp 7)⟩])] []
abbrev c_slices_IndexFunc___api_Val_api_Val__3 : SCode := .reg [([], [⟨(some 10), none, none, .mov (.tmp 8)⟩, ⟨(some 5), none, none, .mov (.tmp 10)⟩])] [9, 10]
abbrev c_slices_IndexFunc___api_Val_api_Val__4 : SCode := .reg [([2064, 2065, 2066, 2067], [⟨(some 11), none, none, .mov (.tmp 1)⟩, ⟨(some 12), none, none, .mov (.tmp 0)⟩, ⟨(some 13), none, none, .mov (.tmp 5)⟩, ⟨(some 14), none, none, .idxA 4 (.tmp 12) (.tmp 13)⟩, ⟨(some 15), none, none, .ld true 4 (.tmp 14)⟩, ⟨(some 16), none, none, .callv (.tmp 11) 1 [(.tmp 15)]⟩])] [11, 12, 13, 14, 15]
abbrev c_slices_IndexFunc___api_Val_api_Val__5 : SCode := .reg [([], [⟨(some 17), none, none, .mov (.tmp 5)⟩, ⟨(some 4), none, none, .mov (.tmp 17)⟩])] [0, 1, 5, 7, 8, 16, 17]
abbrev c_slices_IndexFunc___api_Val_api_Val__6 : SCode := .reg [([], [⟨(some 18), none, none, .bin .add 3 (.tmp 8) (.val (.int .i64 1))⟩, ⟨(some 8), none, none, .mov (.tmp 18)⟩])] [4, 5, 16, 18]
abbrev c_slices_IndexFunc___api_Val_api_Val__7 : SCode := (.seq c_slices_IndexFunc___api_Val_api_Val__2 (.seq (.cond (.tmp 9) .skip (.exit 0)) (.seq (.block 1 (.seq c_slices_IndexFunc___api_Val_api_Val__3 (.seq c_slices_IndexFunc___api_Val_api_Val__4 (.cond (.tmp 16) (.seq c_slices_IndexFunc___api_Val_api_Val__5 .ret) .skip)))) c_slices_IndexFunc___api_Val_api_Val__6)))
abbrev c_slices_IndexFunc___api_Val_api_Val__8 : SCode := .reg [([], [⟨(some 4), none, none, .mov (.val (.int .i64 (-1)))⟩])] [0, 1, 7, 8]
abbrev F_slices_IndexFunc___api_Val_api_Val_ : SFunc := ⟨19, (.seq c_slices_IndexFunc___api_Val_api_Val__0 (.seq (.seq c_slices_IndexFunc___api_Val_api_Val__1 (.block 0 (.loop c_slices_IndexFunc___api_Val_api_Val__7))) (.seq c_slices_IndexFunc___api_Val_api_Val__8 .ret))), [.tmp 4], false⟩
theorem tf_slices_IndexFunc___api_Val_api_Val_ : transFunc Go.Proofs.Tryz.prog 121 (hintT [(16, 1)]) (fpT []) (killT [(0, [4]), (1, [6]), (3, [9, 10]), (4, [11, 12, 13, 14, 15]), (5, [0, 1, 5, 7, 8, 16, 17]), (6, [4, 5, 16, 18]), (7, [0, 1, 7, 8])]) false = some F_slices_IndexFunc___api_Val_api_Val_ := by kernel_rfl
-- moraineref03.Sign
abbrev c_moraineref03_Sign_0 : SCode := .reg [([], [⟨(some 2), none, none, .mov (.val (.int .i64 0))⟩])] [2]
abbrev c_moraineref03_Sign_1 : SCode := .reg [([], [⟨(some 8), none, none, .mov (.tmp 0)⟩, ⟨(some 9), none, none, .slen (.tmp 8)⟩, ⟨(some 10), none, none, .bin .eql 3 (.tmp 9) (.val (.int .i64 0))⟩])] [8, 9]
abbrev c_moraineref03_Sign_2 : SCode := .reg [([], [⟨(some 2), none, none, .mov (.val (.int .i64 0))⟩])] [0, 10]
abbrev c_moraineref03_Sign_3 : SCode := .reg [([], [⟨(some 11), none, none, .mov (.tmp 0)⟩, ⟨(some 12), none, none, .sidx (.tmp 11) (.val (.int .i64 0))⟩, ⟨(some 13), none, none, .cvi .i64 (.tmp 12)⟩, ⟨(some 3), none, none, .mov (.tmp 13)⟩])] [2, 10, 11, 12, 13]
abbrev c_moraineref03_Sign_4 : SCode := .reg [([], [⟨(some 14), none, none, .mov (.tmp 3)⟩, ⟨(some 15), none, none, .bin .lss 3 (.tmp 14) (.val (.int .i64 128))⟩])] [14]
abbrev c_moraineref03_Sign_5 : SCode := .reg [([], [⟨(some 2), none, none, .mov (.val (.int .i64 1))⟩])] [0, 3, 15]
abbrev c_moraineref03_Sign_6 : SCode := .reg [([], [⟨(some 4), none, none, .mov (.val (.int .i64 0))⟩])] [2, 15]
abbrev c_moraineref03_Sign_7 : SCode := .reg [([], [⟨(some 5), none, none, .mov (.val (.int .i64 128))⟩])] []
abbrev c_moraineref03_Sign_8 : SCode := .reg [([], [⟨(some 6), none, none, .mov (.val (.int .i64 191))⟩])] []
abbrev c_moraineref03_Sign_9 : SCode := .reg [([], [⟨(some 16), none, none, .mov (.tmp 3)⟩, ⟨(some 17), none, none, .bin .geq 3 (.tmp 16) (.val (.int .i64 194))⟩, ⟨(some 18), none, none, .mov (.tmp 17)⟩, ⟨(some 19), (some (18, true)), none, .mov (.tmp 3)⟩, ⟨(some 20), (some (18, true)), none, .bin .leq 3 (.tmp 19) (.val (.int .i64 223))⟩, ⟨(some 21), none, none, .pick (.tmp 18) (.tmp 20) (.val (.bool false))⟩])] [16, 17, 18, 19, 20]
abbrev c_moraineref03_Sign_10 : SCode := .reg [([], [⟨(some 4), none, none, .mov (.val (.int .i64 2))⟩])] [21]
abbrev c_moraineref03_Sign_11 : SCode := .reg [([], [⟨(some 22), none, none, .mov (.tmp 3)⟩, ⟨(some 23), none, none, .bin .geq 3 (.tmp 22) (.val (.int .i64 224))⟩, ⟨(some 24), none, none, .mov (.tmp 23)⟩, ⟨(some 25), (some (24, true)), none, .mov (.tmp 3)⟩, ⟨(some 26), (some (24, true)), none, .bin .leq 3 (.tmp 25) (.val (.int .i64 239))⟩, ⟨(some 27), none, none, .pick (.tmp 24) (.tmp 26) (.val (.bool false))⟩])] [21, 22, 23, 24, 25, 26]
abbrev c_moraineref03_Sign_12 : SCode := .reg [([], [⟨(some 4), none, none, .mov (.val (.int .i64 3))⟩])] [27]
abbrev c_moraineref03_Sign_13 : SCode := .reg [([], [⟨(some 28), none, none, .mov (.tmp 3)⟩, ⟨(some 29), none, none, .bin .geq 3 (.tmp 28) (.val (.int .i64 240))⟩, ⟨(some 30), none, none, .mov (.tmp 29)⟩, ⟨(some 31), (some (30, true)), none, .mov (.tmp 3)⟩, ⟨(some 32), (some (30, true)), none, .bin .leq 3 (.tmp 31) (.val (.int .i64 244))⟩, ⟨(some 33), none, none, .pick (.tmp 30) (.tmp 32) (.val (.bool false))⟩])] [27, 28, 29, 30, 31, 32]
abbrev c_moraineref03_Sign_14 : SCode := .reg [([], [⟨(some 4), none, none, .mov (.val (.int .i64 4))⟩])] [33]
abbrev c_moraineref03_Sign_15 : SCode := .reg [([], [⟨(some 34), none, none, .mov (.tmp 4)⟩, ⟨(some 35), none, none, .bin .eql 3 (.tmp 34) (.val (.int .i64 0))⟩, ⟨(some 36), none, none, .mov (.tmp 35)⟩, ⟨(some 37), (some (36, false)), none, .mov (.tmp 0)⟩, ⟨(some 38), (some (36, false)), none, .slen (.tmp 37)⟩, ⟨(some 39), (some (36, false)), none, .mov (.tmp 4)⟩, ⟨(some 40), (some (36, false)), none, .bin .lss 3 (.tmp 38) (.tmp 39)⟩, ⟨(some 41), none, none, .pick (.tmp 36) (.val (.bool true)) (.tmp 40)⟩])] [33, 34, 35, 36, 37, 38, 39, 40]
abbrev c_moraineref03_Sign_16 : SCode := .reg [([], [⟨(some 2), none, none, .mov (.val (.int .i64 0))⟩])] [0, 3, 4, 5, 6, 41]
abbrev c_moraineref03_Sign_17 : SCode := .reg [([], [⟨(some 42), none, none, .mov (.tmp 3)⟩])] [2, 3, 41]
abbrev c_moraineref03_Sign_18 : SCode := .reg [([], [⟨(some 44), none, none, .bin .eql 3 (.tmp 42) (.val (.int .i64 224))⟩, ⟨(some 43), none, none, .mov (.tmp 44)⟩])] [44]
abbrev c_moraineref03_Sign_19 : SCode := .reg [([], [⟨(some 5), none, none, .mov (.val (.int .i64 160))⟩])] [42, 43]
abbrev c_moraineref03_Sign_20 : SCode := .reg [([], [⟨(some 46), none, none, .bin .eql 3 (.tmp 42) (.val (.int .i64 237))⟩, ⟨(some 45), none, none, .mov (.tmp 46)⟩])] [43, 46]
abbrev c_moraineref03_Sign_21 : SCode := .reg [([], [⟨(some 6), none, none, .mov (.val (.int .i64 159))⟩])] [42, 45]
abbrev c_moraineref03_Sign_22 : SCode := .reg [([], [⟨(some 48), none, none, .bin .eql 3 (.tmp 42) (.val (.int .i64 240))⟩, ⟨(some 47), none, none, .mov (.tmp 48)⟩])] [45, 48]
abbrev c_moraineref03_Sign_23 : SCode := .reg [([], [⟨(some 5), none, none, .mov (.val (.int .i64 144))⟩])] [42, 47]
abbrev c_moraineref03_Sign_24 : SCode := .reg [([], [⟨(some 50), none, none, .bin .eql 3 (.tmp 42) (.val (.int .i64 244))⟩, ⟨(some 49), none, none, .mov (.tmp 50)⟩])] [42, 47, 50]
abbrev c_moraineref03_Sign_25 : SCode := .reg [([], [⟨(some 6), none, none, .mov (.val (.int .i64 143))⟩])] [49]
abbrev c_moraineref03_Sign_26 : SCode := .reg [([], [⟨(some 51), none, none, .mov (.tmp 0)⟩, ⟨(some 52), none, none, .sidx (.tmp 51) (.val (.int .i64 1))⟩, ⟨(some 53), none, none, .cvi .i64 (.tmp 52)⟩, ⟨(some 54), none, none, .mov (.tmp 5)⟩, ⟨(some 55), none, none, .bin .lss 3 (.tmp 53) (.tmp 54)⟩, ⟨(some 56), none, none, .mov (.tmp 55)⟩, ⟨(some 57), (some (56, false)), none, .mov (.tmp 0)⟩, ⟨(some 58), (some (56, false)), none, .sidx (.tmp 57) (.val (.int .i64 1))⟩, ⟨(some 59), (some (56, false)), none, .cvi .i64 (.tmp 58)⟩, ⟨(some 60), (some (56, false)), none, .mov (.tmp 6)⟩, ⟨(some 61), (some (56, false)), none, .bin .gtr 3 (.tmp 59) (.tmp 60)⟩, ⟨(some 62), none, none, .pick (.tmp 56) (.val (.bool true)) (.tmp 61)⟩])] [5, 6, 49, 51, 52, 53, 54, 55, 56, 57, 58, 59, 60, 61]
abbrev c_moraineref03_Sign_27 : SCode := .reg [([], [⟨(some 2), none, none, .mov (.val (.int .i64 0))⟩])] [0, 4, 62]
abbrev c_moraineref03_Sign_28 : SCode := .reg [([], [⟨(some 7), none, none, .mov (.val (.int .i64 2))⟩])] [2, 62]
abbrev c_moraineref03_Sign_29 : SCode := .reg [([], [⟨(some 63), none, none, .mov (.tmp 7)⟩, ⟨(some 64), none, none, .mov (.tmp 4)⟩, ⟨(some 65), none, none, .bin .lss 3 (.tmp 63) (.tmp 64)⟩])] [63, 64]
abbrev c_moraineref03_Sign_30 : SCode := .reg [([], [⟨(some 68), none, none, .mov (.tmp 0)⟩, ⟨(some 69), none, none, .mov (.tmp 7)⟩, ⟨(some 70), none, none, .sidx (.tmp 68) (.tmp 69)⟩, ⟨(some 71), none, none, .bin .lss 5 (.tmp 70) (.val (.int .u8 128))⟩, ⟨(some 72), none, none, .mov (.tmp 71)⟩, ⟨(some 73), (some (72, false)), none, .mov (.tmp 0)⟩, ⟨(some 74), (some (72, false)), none, .mov (.tmp 7)⟩, ⟨(some 75), (some (72, false)), none, .sidx (.tmp 73) (.tmp 74)⟩, ⟨(some 76), (some (72, false)), none, .bin .gtr 5 (.tmp 75) (.val (.int .u8 191))⟩, ⟨(some 77), none, none, .pick (.tmp 72) (.val (.bool true)) (.tmp 76)⟩])] [65, 68, 69, 70, 71, 72, 73, 74, 75, 76]
abbrev c_moraineref03_Sign_31 : SCode := .reg [([], [⟨(some 2), none, none, .mov (.val (.int .i64 0))⟩])] [0, 4, 7, 77]
abbrev c_moraineref03_Sign_32 : SCode := .reg [([], [⟨(some 66), none, none, .mov (.tmp 7)⟩, ⟨(some 67), none, none, .bin .add 3 (.tmp 66) (.val (.int .i64 1))⟩, ⟨(some 7), none, none, .mov (.tmp 67)⟩])] [2, 66, 67, 77]
abbrev c_moraineref03_Sign_33 : SCode := (.seq (.seq c_moraineref03_Sign_29 (.cond (.tmp 65) .skip (.exit 1))) (.seq (.block 2 (.seq c_moraineref03_Sign_30 (.cond (.tmp 77) (.seq c_moraineref03_Sign_31 .ret) .skip))) c_moraineref03_Sign_32))
abbrev c_moraineref03_Sign_34 : SCode := .reg [([], [⟨(some 78), none, none, .mov (.tmp 4)⟩, ⟨(some 2), none, none, .mov (.tmp 78)⟩])] [0, 4, 7, 78]
abbrev F_moraineref03_Sign : SFunc := ⟨79, (.seq c_moraineref03_Sign_0 (.seq (.seq c_moraineref03_Sign_1 (.cond (.tmp 10) (.seq c_moraineref03_Sign_2 .ret) .skip)) (.seq c_moraineref03_Sign_3 (.seq (.seq c_moraineref03_Sign_4 (.cond (.tmp 15) (.seq c_moraineref03_Sign_5 .ret) .skip)) (.seq c_moraineref03_Sign_6 (.seq c_moraineref03_Sign_7 (.seq c_moraineref03_Sign_8 (.seq (.seq c_moraineref03_Sign_9 (.cond (.tmp 21) c_moraineref03_Sign_10 .skip)) (.seq (.seq c_moraineref03_Sign_11 (.cond (.tmp 27) c_moraineref03_Sign_12 .skip)) (.seq (.seq c_moraineref03_Sign_13 (.cond (.tmp 33) c_moraineref03_Sign_14 .skip)) (.seq (.seq c_moraineref03_Sign_15 (.cond (.tmp 41) (.seq c_moraineref03_Sign_16 .ret) .skip)) (.seq (.seq c_moraineref03_Sign_17 (.block 0 (.seq c_moraineref03_Sign_18 (.cond (.tmp 43) c_moraineref03_Sign_19 (.seq c_moraineref03_Sign_20 (.cond (.tmp 45) c_moraineref03_Sign_21 (.seq c_moraineref03_Sign_22 (.cond (.tmp 47) c_moraineref03_Sign_23 (.seq c_moraineref03_Sign_24 (.cond (.tmp 49) c_moraineref03_Sign_25 .skip)))))))))) (.seq (.seq c_moraineref03_Sign_26 (.cond (.tmp 62) (.seq c_moraineref03_Sign_27 .ret) .skip)) (.seq (.seq c_moraineref03_Sign_28 (.block 1 (.loop c_moraineref03_Sign_33))) (.seq c_moraineref03_Sign_34 .ret))))))))))))))), [.tmp 2], false⟩
theorem tf_moraineref03_Sign : transFunc Go.Proofs.Tryz.prog 122 (hintT []) (fpT []) (killT [(0, [2]), (1, [8, 9]), (2, [0, 10]), (3, [2, 10, 11, 12, 13]), (4, [14]), (5, [0, 3, 15]), (6, [2, 15]), (9, [16, 17, 18, 19, 20]), (10, [21]), (11, [21, 22, 23, 24, 25, 26]), (12, [27]), (13, [27, 28, 29, 30, 31, 32]), (14, [33]), (15, [33, 34, 35, 36, 37, 38, 39, 40]), (16, [0, 3, 4, 5, 6, 41]), (17, [2, 3, 41]), (18, [44]), (19, [42, 43]), (20, [43, 46]), (21, [42, 45]), (22, [45, 48]), (23, [42, 47]), (24, [42, 47, 50]), (25, [49]), (26, [5, 6, 49, 51, 52, 53, 54, 55, 56, 57, 58, 59, 60, 61]), (27, [0, 4, 62]), (28, [2, 62]), (29, [63, 64]), (31, [65, 68, 69, 70, 71, 72, 73, 74, 75, 76]), (32, [0, 4, 7, 77]), (30, [2, 66, 67, 77]), (33, [0, 4, 7, 78])]) false = some F_moraineref03_Sign := by kernel_rfl
-- cmp.isNaN[int]
abbrev c_cmp_isNaN_int__0 : SCode := .reg [([], [⟨(some 2), none, none, .mov (.val (.bool false))⟩])] [2]
abbrev c_cmp_isNaN_int__1 : SCode := .reg [([], [⟨(some 3), none, none, .mov (.tmp 0)⟩, ⟨(some 4), none, none, .mov (.tmp 0)⟩, ⟨(some 5), none, none, .bin .neq 3 (.tmp 3) (.tmp 4)⟩, ⟨(some 2), none, none, .mov (.tmp 5)⟩])] [0, 3, 4, 5]
abbrev F_cmp_isNaN_int_ : SFunc := ⟨6, (.seq c_cmp_isNaN_int__0 (.seq c_cmp_isNaN_int__1 .ret)), [.tmp 2], false⟩
theorem tf_cmp_isNaN_int_ : transFunc Go.Proofs.Tryz.prog 123 (hintT []) (fpT []) (killT [(0, [2]), (1, [0, 3, 4, 5])]) false = some F_cmp_isNaN_int_ := by kernel_rfl
-- cmp.isNaN[string]
abbrev c_cmp_isNaN_string__0 : SCode := .reg [([], [⟨(some 2), none, none, .mov (.val (.bool false))⟩])] [2]
abbrev c_cmp_isNaN_string__1 : SCode := .reg [([], [⟨(some 3), none, none, .mov (.tmp 0)⟩, ⟨(some 4), none, none, .mov (.tmp 0)⟩, ⟨(some 5), none, none, .bin .neq 9 (.tmp 3) (.tmp 4)⟩, ⟨(some 2), none, none, .mov (.tmp 5)⟩])] [0, 3, 4, 5]
abbrev F_cmp_isNaN_string_ : SFunc := ⟨6, (.seq c_cmp_isNaN_string__0 (.seq c_cmp_isNaN_string__1 .ret)), [.tmp 2], false⟩
theorem tf_cmp_isNaN_string_ : transFunc Go.Proofs.Tryz.prog 124 (hintT []) (fpT []) (killT [(0, [2]), (1, [0, 3, 4, 5])]) false = some F_cmp_isNaN_string_ := by kernel_rfl
-- val.sign$1
abbrev c_val_sign_1_0 : SCode := .reg [([3], [⟨(some 3), none, none, .new [(.int .i64 0), (.int .i64 0), (.string ⟨#[]⟩), (.slice none 0 0)]⟩, ⟨(some 4), none, none, .mov (.val (.int .i64 0))⟩])] [4]
abbrev c_val_sign_1_1 : SCode := .reg [([2036, 2037, 2038, 2039], [⟨(some 5), none, none, .mov (.tmp 0)⟩, ⟨(some 6), none, none, .bin .neq 9 (.tmp 5) (.val (.string ⟨#[]⟩))⟩, ⟨(some 7), none, none, .mov (.tmp 6)⟩, ⟨(some 8), (some (7, true)), none, .mov (.tmp 0)⟩, ⟨(some 9), (some (7, true)), none, .call 105 0 [(.tmp 8)]⟩, ⟨(some 10), (some (7, true)), none, .ld false 1 (.tmp 1)⟩, ⟨(some 11), (some (7, true)), none, .bin .eql 21 (.tmp 9) (.tmp 10)⟩, ⟨(some 12), none, none, .pick (.tmp 7) (.tmp 11) (.val (.bool false))⟩])] [0, 1, 5, 6, 7, 8, 9, 10, 11]
abbrev c_val_sign_1_2 : SCode := .reg [([], [⟨(some 13), none, none, .build [(.int .i64 0), (.int .i64 0), (.string ⟨#[]⟩), (.slice none 0 0)] []⟩, ⟨none, none, none, .st 4 (.tmp 3) (.tmp 13)⟩, ⟨(some 4), none, none, .mov (.val (.int .i64 1))⟩])] [12, 13]
abbrev c_val_sign_1_3 : SCode := .reg [([], [⟨(some 14), none, none, .build [(.int .i64 0), (.int .i64 0), (.string ⟨#[]⟩), (.slice none 0 0)] []⟩, ⟨none, none, none, .st 4 (.tmp 3) (.tmp 14)⟩, ⟨(some 4), none, none, .mov (.val (.int .i64 0))⟩])] [12, 14]
abbrev F_val_sign_1 : SFunc := ⟨15, (.seq c_val_sign_1_0 (.seq (.seq c_val_sign_1_1 (.cond (.tmp 12) (.seq c_val_sign_1_2 .ret) .skip)) (.seq c_val_sign_1_3 .ret))), [.cell true 4 3, .tmp 4], false⟩
theorem tf_val_sign_1 : transFunc Go.Proofs.Tryz.prog 150 (hintT [(9, 0)]) (fpT []) (killT [(0, [4]), (1, [0, 1, 5, 6, 7, 8, 9, 10, 11]), (2, [12, 13]), (3, [12, 14])]) false = some F_val_sign_1 := by kernel_rfl
def funcs : Nat → Option SFunc
  | 15 => some F_morainelaw03_awake
  | 18 => some F_val_Read
  | 19 => some F_moraineref03_Same
  | 20 => some F_val_Encode
  | 21 => some F_val_Decode
  | 28 => some F_val_Right
  | 32 => some F_val_Compare
  | 33 => some F_moraineref03_Compare
  | 34 => some F_val_Same
  | 55 => some F_val_reader
  | 56 => some F_val_value
  | 57 => some F_val_items
  | 58 => some F_val_lay
  | 59 => some F___val_decoder__value
  | 63 => some F_val_bare
  | 64 => some F_val_rightText
  | 65 => some F_val_rightID
  | 66 => some F_slices_ContainsFunc___api_Val_api_Val_
  | 67 => some F_val_noItem
  | 70 => some F_cmp_Compare_int_
  | 71 => some F_cmp_Compare_string_
  | 72 => some F_val_byItems_api_Val_
  | 73 => some F_moraineref03_Order
  | 104 => some F_val_reader_1
  | 105 => some F_val_first
  | 106 => some F_val_quoted
  | 107 => some F_val_reference
  | 108 => some F_val_number
  | 109 => some F_val_sign
  | 112 => some F___val_decoder__number
  | 113 => some F___val_decoder__text
  | 114 => some F___val_decoder__items
  | 120 => some F_val_plain
  | 121 => some F_slices_IndexFunc___api_Val_api_Val_
  | 123 => some F_cmp_isNaN_int_
  | 124 => some F_cmp_isNaN_string_
  | 150 => some F_val_sign_1
  | _ => none
end Go.Sh.Cd1
end
