/- Merged texts: WrapB Open0 WrapE Pe7 PFits Zg11 Zg12. No statement of the program is proved here. -/
import Derived.Test.YtmiokadmddjccaaGreatDoorM1
import Derived.Test.YtmiokadmddjccaaGreatDoorM2
import Derived.Test.YtmiokadmddjccaaGreatDoorM3
import Derived.Test.YtmiokadmddjccaaGreatDoorM4
import Derived.Test.YtmiokadmddjccaaGreatDoorM5
import Derived.Test.YtmiokadmddjccaaGreatDoorM6
import Derived.Test.YtmiokadmddjccaaGreatDoorCards
import Derived.Test.YtmiokadmddjccaaGreatDoorTie
import Derived.Lib.LaidIn
import Derived.Lib.LaidU8T
import Derived.Deep.DeepHandedRow
import Derived.Deep.DeepWitnessRowRef
import Derived.ProofKit
import Derived.SizedLaws
import Derived.OpenShut
import Derived.Stop.LaidTwo
import Derived.Deep.Slices
import Derived.Deep.Fields
import Derived.ChangeSame
import Derived.SevenTiedAt
import Derived.PinnedBridge
import Derived.Shelf.Vars
set_option linter.unusedSimpArgs false
set_option linter.unusedVariables false
section
namespace Go.Proofs.YtmiokadmddjccaaGreatDoor
open Go.ChangeShapes Go.WideShapes Go.ChangeAt Go.RowKit Go.Lib Go.Mor Go.Deep
open Go.ChangeMaps (open_string shut_string)
theorem own : ownKnob Tryz.prog.godebug = none := by kernel_rfl
theorem acc_eq : Rows.laid_unicode_utf8_acceptRanges = Lib.acceptData := by kernel_rfl
theorem hv_of {W : World} (h : W.ShapedOpen Tryz.prog) : 10 ≤ W.heap.size := by
 obtain ⟨o, o0, h1, _⟩ := h.2 10 (of_decide_eq_true (by kernel_rfl)) (of_decide_eq_true (by kernel_rfl))
 exact Nat.le_of_lt (Array.getElem?_eq_some_iff.1 h1).1
theorem globU_of {W : World} {L : List (String × DataW Unit)} (hL : laidMet Tryz.prog L W) (h1 : ("unicode/utf8.first", Rows.laid_unicode_utf8_first) ∈ L) (h2 : ("unicode/utf8.acceptRanges", Rows.laid_unicode_utf8_acceptRanges) ∈ L) : GlobU W :=
 ⟨utf8Tabs_of_readsT (U8Types.of196 Tryz.laysValid) ⟨by kernel_rfl, by kernel_rfl, by kernel_rfl, by kernel_rfl, by kernel_rfl, by kernel_rfl, by kernel_rfl⟩ (by rw [← Pinned.utf8First_eq]; exact Lib.laidMet.reads hL h1) (by rw [← acc_eq]; exact Lib.laidMet.reads hL h2)⟩
def litsOf : DataW Unit → List Value
 | .agg l => l.map fun x => match x with | .lit y => y.value | _ => undef
 | _ => []
def textOf : DataW Unit → List UInt8
 | .iface _ (.ptr (.agg [.lit (.string l)])) => l
 | _ => []
noncomputable def z30 (os : Os) : World :=
 let N := (World.settled Tryz.prog os).heap.size
 let w0 := World.holding Tryz.prog os ⟨#[.cells #[.string ⟨(textOf Rows.laid_moraine_wire_errEnd).toArray⟩] 311, .cells #[.string ⟨(textOf Rows.laid_moraine_wire_errForm).toArray⟩] 311, .cells #[.string ⟨(textOf Rows.laid_strconv_ErrRange).toArray⟩] 311, .cells #[.string ⟨(textOf Rows.laid_strconv_ErrSyntax).toArray⟩] 311], #[], []⟩
 let put (h : Array Obj) (g : Nat) (cs : Array Value) : Array Obj := h.modify g fun
  | .cells _ t frozen => .cells cs t frozen
  | o => o
 let h := w0.heap
 let h := put h 8 (litsOf Rows.laid_math_bits_deBruijn32tab).toArray
 let h := put h 9 (litsOf Rows.laid_math_bits_deBruijn64tab).toArray
 let h := put h 5 (litsOf Rows.laid_internal_strconv_uint64pow10).toArray
 let h := put h 1 ((List.range 16).flatMap fun i => [Value.int .u8 (Lib.accLo i), Value.int .u8 (Lib.accHi i)]).toArray
 let h := put h 0 (Lib.firstTab.map fun z => Value.int .u8 z).toArray
 let h := put h 3 #[.iface 309 (.pointer (some ⟨N, 0, none⟩))]
 let h := put h 2 #[.iface 309 (.pointer (some ⟨N + 1, 0, none⟩))]
 let h := put h 7 #[.iface 309 (.pointer (some ⟨N + 2, 0, none⟩))]
 let h := put h 6 #[.iface 309 (.pointer (some ⟨N + 3, 0, none⟩))]
 { w0 with heap := h }
noncomputable abbrev N0 : Nat := (World.settled Tryz.prog default).heap.size
theorem laidOut : laidOutB Tryz.prog = true := by kernel_rfl
section
variable {H : Type} {enc : TypeId × Value → H}
theorem trodAll_stays {W W' : World} (hb : Below W.heap.size W W') {sp : Nat → Bool} : ∀ {ts : List TypeId} {vs : List Value} {ds : List (DataW H)} {ps : List MemPlace},
  (ts.all fun t => Tryz.prog.readableRec t && decide (t < Tryz.prog.types.size)) = true → DataW.TrodAll enc Tryz.prog W 0 (fun _ => true) true ts vs ds ps → (∀ x ∈ ps, x.block < W.heap.size) → (∀ x ∈ ps, sp x.block = true) →
  DataW.TrodAll enc Tryz.prog W' 0 sp true ts vs ds ps := by
 intro ts
 induction ts with
 | nil =>
  intro vs ds ps _ h _ _
  obtain ⟨rfl, rfl, rfl⟩ := trodAll_nil h
  exact trodAll_mk0
 | cons t ts ih =>
  intro vs ds ps hr h hlt hsp
  obtain ⟨v, vs', d, ds', p, q, rfl, rfl, rfl, h1, h2⟩ := trodAll_cons h
  simp only [List.all_cons, Bool.and_eq_true, decide_eq_true_iff] at hr
  refine trodAll_cons_mk (WideElems.Trod_stays laidOut hr.1.1 hr.1.2 h1 (fun x hx => hb.same (hlt x (by simp [hx]))) (fun x hx => hsp x (by simp [hx]))) (ih hr.2 h2 (fun x hx => hlt x (by simp [hx])) (fun x hx => hsp x (by simp [hx])))
theorem post_of_below {P : Program} {f : Func} {s : ChangeSpec} {apart fresh handsOn again : Bool} {W W' : World} {args : Array Value} {v : Value} {ds gs : List (DataW H)} {before pa pv : List MemPlace}
  (hW : DataW.Whole enc P f.params.toList s.vars apart W args.toList ds gs before)
  (hres : ∀ (b : Nat) (sp : Nat → Bool) (hd : Bool), DataW.TrodAll enc P W' b sp hd f.resultTypes.toList (v.resultList f.resultTypes.size) (s.fn H (ds ++ gs)).results [])
  (hargs : ∀ sp : Nat → Bool, (∀ p ∈ before, sp p.block = true) → DataW.TrodAll enc P W' 0 sp true f.params.toList args.toList (s.fn H (ds ++ gs)).args pa)
  (hvars : ∀ sp : Nat → Bool, (∀ p ∈ before, sp p.block = true) → DataW.TrodVars enc P W' sp s.vars (s.fn H (ds ++ gs)).vars pv)
  (hps : before = pa ++ pv) (hb : Below W.heap.size W W')
  (hok : ∀ (j : Nat) (t : TypeId) (r : Value), f.resultTypes[j]? = some t → (v.resultList f.resultTypes.size)[j]? = some r → Value.okWide P W' .any 0 t r) :
  s.post enc P f apart fresh handsOn again W args v W' := by
 have hlt : ∀ p ∈ before, p.block < W.heap.size := fun p hp => hW.lt p hp
 have hold : ∀ p ∈ before, (fun b => decide (b < W.heap.size)) p.block = true := fun p hp => by simpa using hlt p hp
 refine ⟨ds, gs, before, [], pa, pv, hW, hres _ _ _, hargs _ hold, hvars _ hold, World.keptBut_mono (fun p hp => ⟨hp, ?_⟩) (hb.frame (· ∈ before)), fun _ => ?_⟩
 ·rw [hps, List.mem_append] at hp
  exact Or.inr hp
 ·obtain ⟨_, _, _, _, _, hz, hn⟩ := hW
  refine ⟨hok, _, _, ([] ++ pa) ++ pv, ⟨[] ++ pa, pv, trodAll_append (hargs _ (fun _ _ => rfl)) (hres _ _ _), hvars _ (fun _ _ => rfl), rfl, ?_, ?_⟩, ?_⟩
  ·intro b off hp
   have hin : MemPlace.cell b off ∈ before := by rw [hps]; simpa using hp
   rw [hb.frozen (hlt _ hin)]
   exact hz b off hin
  ·intro ha
   have := hn ha
   rw [hps] at this
   simpa using this
  ·intro p hp _
   rw [hps]
   simpa using hp

set_option maxRecDepth 100000 in
theorem lifts (f : FuncId) (fn : Func) (sp : ChangeSpec) {W W' : World} {args : Array Value} {ds gs : List (DataW H)} {before : List MemPlace} {fresh handsOn again : Bool}
  (hv : sp.vars = []) (hr : (fn.params.toList.all fun t => Tryz.prog.readableRec t && decide (t < Tryz.prog.types.size)) = true) (hres : fn.resultTypes = #[4])
  (hfn : sp.fn H (ds ++ []) = { results := [.lit (.bool true)], args := ds })
  (hW : DataW.Whole enc Tryz.prog fn.params.toList sp.vars false W args.toList ds gs before) (hb : Below W.heap.size W W') :
  sp.post enc Tryz.prog fn false fresh handsOn again W args (.bool true) W' := by
 have hW' := hW
 obtain ⟨p, q, hA, hV, rfl, _, _⟩ := hW
 rw [hv] at hV
 obtain ⟨rfl, rfl⟩ := trodVars_none hV
 have hlt : ∀ x ∈ p, x.block < W.heap.size := fun x hx => hW'.lt x (by simp [hx])
 refine post_of_below (pa := p) (pv := []) hW' (fun b sp' hd => ?_) (fun sp' hsp => ?_) (fun sp' hsp => ?_) rfl hb ?_
 ·rw [hfn, hres]; exact trodAll_mk1 (shut_bool Tryz.underlying4 _)
 ·rw [hfn]; exact trodAll_stays hb hr hA hlt (fun x hx => hsp x (by simp [hx]))
 ·rw [hfn, hv]; rfl
 ·exact ok_one hres rfl (okWide_bool_mk Tryz.underlying4 _)
end
end Go.Proofs.YtmiokadmddjccaaGreatDoor
end

section
namespace Go.Proofs.YtmiokadmddjccaaGreatDoor
open Go.ChangeShapes Go.WideShapes Go.ChangeAt Go.RowKit Go.Lib Go.Mor Go.Deep Go.Joins
open Go.Sh (RelT RelV TV PV SCalls Env MSim objB objR objX Low)
open Go.ChangeMaps (open_string shut_string)
def envAll (w : World) : Env := ⟨fun k _ => k < w.heap.size, fun _ => 0, fun _ => none, fun _ => 0⟩
theorem objB_nil (d : Nat) : objB [] d = none := by simp [objB]
theorem objR_nil (d : Nat) : objR [] d = none := by simp [objR]
theorem z116 {P : Program} {f : Nat} {xs : List TV} {vs : List Value} {w : World} {g : Go.Sh.Glob} {b : Value} (h : SCalls P g f xs [] (.pv (.v b)) []) (hG : g.G w) (hl : xs.length = vs.length)
  (hr : ∀ (j : Nat) x v, xs[j]? = some x → vs[j]? = some v → RelT w (envAll w) (objR []) x v) : Calls P f vs.toArray w fun e w' => e = .returned b ∧ Below w.heap.size w w' := by
 have hX : ∀ d k, ¬ objX (envAll w) [] d k := by
  rintro d k (⟨cs, h1, _⟩ | ⟨q, cap, h1, _⟩)
  ·rw [objB_nil] at h1; cases h1
  ·rw [objR_nil] at h1; cases h1
 refine (h.2 w (envAll w) vs hG ?_ (fun d k hd => absurd hd (hX d k)) hl hr).mono ?_
 ·refine ⟨fun d cs hd => ?_, fun d e W n hd => ?_, fun d d' cs cs' hd => ?_, fun d d' cs q k cap hd => ?_, fun d d' q q' k cap cap' hd => ?_, fun k o hk => hk, ⟨rfl, rfl, rfl, Nat.le_refl _, fun _ _ _ => rfl⟩, fun k o u hk hu => ⟨hk, hu⟩, fun k o hk => .inl hk, ?_⟩
  ·rw [objB_nil] at hd; cases hd
  ·rw [objR_nil] at hd; cases hd
  ·rw [objB_nil] at hd; cases hd
  ·rw [objB_nil] at hd; cases hd
  ·rw [objR_nil] at hd; cases hd
  ·have hold : ∀ d, ¬ (Go.Sh.start w (envAll w) [] 0).old d := fun d h => by have h1 : 1000 ≤ d ∧ d < 1000 + 0 := h; omega
   constructor <;> (intros; first | (exfalso; apply hold; assumption) | rfl)
 ·rintro e w' ⟨v, E', rfl, hm, hv, _⟩
  obtain rfl := Go.Sh.val_rel (y := b) hv rfl
  exact ⟨rfl, hm.low.os, hm.low.tape, hm.low.output, hm.low.size, fun k hk => hm.low.block k hk (fun d => hX d k)⟩
end Go.Proofs.YtmiokadmddjccaaGreatDoor
end

section
namespace Go.Proofs.YtmiokadmddjccaaGreatDoor
open Go.ChangeShapes Go.WideShapes Go.ChangeAt Go.RowKit Go.Lib Go.Mor Go.Deep
open Go.ChangeMaps (open_string shut_string)
abbrev laidLUTE : List (String × DataW Unit) := [("math/bits.deBruijn32tab", Rows.laid_math_bits_deBruijn32tab), ("math/bits.deBruijn64tab", Rows.laid_math_bits_deBruijn64tab), ("internal/strconv.uint64pow10", Rows.laid_internal_strconv_uint64pow10), ("unicode/utf8.acceptRanges", Rows.laid_unicode_utf8_acceptRanges), ("strconv.ErrRange", Rows.laid_strconv_ErrRange), ("strconv.ErrSyntax", Rows.laid_strconv_ErrSyntax), ("unicode/utf8.first", Rows.laid_unicode_utf8_first)]
theorem pow_eq : (Rows.laid_internal_strconv_uint64pow10 : DataW Unit) = Lib.tabData .u64 Lib.pow10Tab := by kernel_rfl
theorem mx_of {W : World} (h : W.ShapedOpen Tryz.prog) : ∃ k, W.cell? ⟨4, 0, none⟩ = some (.int .i64 k) :=
 cell_of_shapedOpen_int (zero := #[.int .i64 0]) (t := 3) h (of_decide_eq_true (by kernel_rfl)) (by kernel_rfl) rfl (by kernel_rfl) (by kernel_rfl) Tryz.underlying3
theorem star : "*" ++ "errors.errorString" = "*errors.errorString" := by decide
theorem rowErr (u : TypeId) (h : Tryz.prog.typeName? 3 u = some "*errors.errorString") : u = 309 :=
 typeName_ptr_named (nm := "errors.errorString") (by rw [star]; kernel_rfl) (by kernel_rfl) (by decide) u (by rw [star]; exact h)
theorem z72 {W : World} (hL : laidMetH Tryz.prog laidLUTE W) (hsh : W.ShapedOpen Tryz.prog) : (glE W.heap.size).G W := by
 have hL' : laidMet Tryz.prog laidLUTE W := hL
 have hU := globU_of hL' (.tail _ (.tail _ (.tail _ (.tail _ (.tail _ (.tail _ (.head _))))))) (.tail _ (.tail _ (.tail _ (.head _))))
 have hv := hv_of hsh
 have hT : GlobT W := ⟨Lib.tabIs_of_head pow10_named (t := 281) (by kernel_rfl) Tryz.underlying281 Tryz.underlying250 (by kernel_rfl) (by kernel_rfl) (by have h := hL'.tail.tail; rw [pow_eq] at h; exact h), mx_of hsh⟩
 obtain ⟨a0, a1, s0, s1, c0, c1, t0, t1, hv0, hv1, _⟩ := laid_sentinels2 (g0 := 7) (g1 := 6) (ti := 218) (tp := 309) (te := 311) (ts := 9) hL'.tail.tail.tail.tail (by kernel_rfl) (by kernel_rfl) (by kernel_rfl) (by kernel_rfl)
  Tryz.underlying218 rowErr Tryz.underlying309 Tryz.underlying311 rfl rfl Tryz.underlying9 (by kernel_rfl) (by kernel_rfl)
 have hE : GlobE W := by
  refine ⟨⟨309, .pointer (some a1), ?_⟩, ⟨309, .pointer (some a0), ?_⟩⟩
  ·have := World.var?_cell (g := 6) (by kernel_rfl) hv1 0; simpa using this
  ·have := World.var?_cell (g := 7) (by kernel_rfl) hv0 0; simpa using this
 have hN : GlobN0 W.heap.size W := ⟨hU, Nat.le_refl _, hv⟩
 exact (⟨⟨hN, hT⟩, hE⟩ : GlobNE W.heap.size W)
theorem z118 (os : Os) (args : Array Value) : laidMet Tryz.prog laidLUTE ((z30 os).forCall (fun _ _ => 0) ⟨#[], args, []⟩).memory :=
 (LaidIn.of_run [8, 9, 5, 1, 7, N0 + 2, 6, N0 + 3, 0] 8 (by kernel_rfl) (by kernel_rfl) (by kernel_rfl) (by kernel_rfl)).met
end Go.Proofs.YtmiokadmddjccaaGreatDoor
end

section
namespace Go.Mor
open Go
open Go.Proofs.YtmiokadmddjccaaGreatDoor (cmpV z97 cmpV_zero cmpV_rng cmpV_eq cmpV_anti ordI thenI ordS cmpL)
set_option maxHeartbeats 2000000
set_option maxRecDepth 100000
def eF (s : List UInt8) : V := .mk 3 0 s []
def eN (n : Int) : V := .mk 1 n [] []
def eT (s : List UInt8) : V := .mk 2 0 s []
def eO (s : List UInt8) (a b : V) : V := .mk 4 0 s [a, b]
def eC (s : List UInt8) (l : List V) : V := .mk 6 0 s l
def eM (a : V) : V := .mk 5 0 [45] [a]
def fn' : V := eF [110]
def ft' : V := eF [116]
def sFs : List Fld := [⟨[110], ⟨1, 0⟩, false⟩, ⟨[116], ⟨2, 0⟩, false⟩, ⟨[114], ⟨3, 0⟩, false⟩]
def sCls : Cls := ⟨[99], sFs⟩
def sVals (x : Int) (t : List UInt8) : List V := [.mk 1 x [] [], .mk 2 0 t [], V.nil]
section
variable {fs : List Fld} {vals : List V} {d : Nat} {x : Int} {t : List UInt8} {a b c : V} {s : List UInt8} {n : Int}
theorem numE_id (h0 : -1000000000000000 ≤ n) (h1 : n ≤ 1000000000000000) : numE n = .mk 1 n [] [] := by unfold numE; rw [cutN_id h0 h1]
end
def Rg (n : Int) : Prop := -1000000000000000 ≤ n ∧ n ≤ 1000000000000000
section
variable {x y : Int} {t u : List UInt8}
end
section
variable {gs : List (List UInt8)} {x : Int}
end
def Ascii (s : List UInt8) : Prop := ∀ b ∈ s, 32 ≤ b.toNat ∧ b.toNat < 127
theorem Ascii.app {s t : List UInt8} (h : Ascii s) (h' : Ascii t) : Ascii (s ++ t) := fun b hb => (List.mem_append.1 hb).elim (h b) (h' b)
theorem Ascii.take {s : List UInt8} (h : Ascii s) (n : Nat) : Ascii (s.take n) := fun b hb => h b (List.mem_of_mem_take hb)
end Go.Mor
end

section
namespace Go.Mor
open Go Go.RowKit
set_option maxHeartbeats 1000000
theorem checkGo_ok : ∀ (fs : List Fld) (vs : List V) (k : Nat), (∀ (i : Nat) f v, fs[i]? = some f → vs[i]? = some v → fitsV v f.t = true) → z81 k fs vs = (0, 0) := by
 intro fs
 induction fs with
 | nil => intro vs k _; simp [z81]
 | cons f r ih =>
  intro vs k h
  cases vs with
  | nil => simp [z81]
  | cons v q =>
   rw [z81, if_pos (h 0 f v rfl rfl)]
   exact ih q (k + 1) fun i f v hf hv => h (i + 1) f v (by simpa using hf) (by simpa using hv)
theorem check_ok {c : Cls} {vs : List V} (hc : z26 c = true) (hl : vs.length = c.fs.length) (h : ∀ (i : Nat) f v, c.fs[i]? = some f → vs[i]? = some v → fitsV v f.t = true) : check c vs = (0, 0) := by
 simp only [check, hc, Bool.not_true, Bool.false_eq_true, if_false, hl, ne_eq, not_true_eq_false]
 exact checkGo_ok _ _ _ h
end Go.Mor
end

section
namespace Go.Proofs.YtmiokadmddjccaaGreatDoor
open Go Go.RowKit Go.Mor Go.Sh Go.Sh.Cd1 Go.Sh.Cd6
set_option maxRecDepth 100000
set_option maxHeartbeats 4000000
theorem okE_small : ∀ (d : Nat) (e : V), okE d e = true → ESmall e
 | 0, e, h => by simp [okE] at h
 | d + 1, e, h => by
  obtain ⟨hn, hk⟩ := ok_kids h
  have key : e.l.length ≤ 3 ∧ e.s.length ≤ 60 := by
   rcases z128 hn with k | k | k | k | k | k
   ·have := node1 hn k; rw [this.2.2.1, this.2.2.2]; simp
   ·have := node2 hn k; rw [this.2.2]; exact ⟨by simp, right60 this.2.1⟩
   ·have := node3 hn k
    rw [this.2.2]
    have h2 := this.2.1
    unfold z16 at h2
    simp at h2
    refine ⟨by simp, by omega⟩
   ·obtain ⟨_, hb, a, b, h⟩ := node4 hn k
    have := binds_len hb
    rw [h]; exact ⟨by simp, by omega⟩
   ·obtain ⟨_, hb, a, h⟩ := node5 hn k; rw [h, hb]; simp
   ·obtain ⟨_, hb, h⟩ := node6 hn k
    have h2 := takes_3 e.s
    refine ⟨by omega, ?_⟩
    rcases z120 hb with h | h | h | h | h | h | h | h | h | h <;> rw [h] <;> decide
  obtain ⟨k, n, s, l⟩ := e
  exact .mk (by have := key.1; simp only [Vl] at this; omega) (by have := key.2; simp only [Vs] at this; omega) (fun y hy => okE_small d y (hk y hy))
theorem z132 {e : V} (h : rightE e = true) : ESmall e := okE_small 8 e (rightE_inv h).1
theorem parse_rt {s : List UInt8} {f : Nat} {e : V} (h : parseV f s = some (e, 0, 0)) : rightE e = true := by
 unfold parseV at h
 split at h
 ·cases h
 split at h
 ·cases h
 ·cases h
 ·split at h
  ·split at h
   ·simp at h
   ·split at h
    ·rename_i hr
     cases h; exact hr
    ·cases h
  ·cases h
  ·cases h
theorem num6_ok (g : Sh.Glob) (n : Int) : SCalls Tryz.prog g 41 [I n] [] (nv (.mk 1 n [] [])) [] := by
 refine z7 hmix tf_72 rfl ?_
 simp only [vcA, seval, vV]
 rfl
theorem text6_ok (g : Sh.Glob) (s : List UInt8) : SCalls Tryz.prog g 40 [S (str s)] [] (nv (.mk 2 0 s [])) [] := by
 refine z7 hmix tf_78 rfl ?_
 simp only [vcA, seval, vV]
theorem sample_ok (g : Sh.Glob) : SCalls Tryz.prog g 54 [] [] (clT sCls) [] := by
 refine z7 hmix tf_77 rfl ?_
 simp only [vcA, seval, vV]
 rfl
def rawRow (x : V) : List PV := [.v (.int .i64 x.k), .v (.int .i64 x.n), .v (.string (str x.s)), .v (.slice none 0 0)]
theorem pwk_raw {x : V} (h : x.l = []) (j : Nat) (c d : PV) (hc : (rawRow x)[j]? = some c) (hd : (V.row x)[j]? = some d) : PWk c d := by
 rw [row4, h] at hd
 match j with
 | 0 => cases hc; cases hd; exact .refl _
 | 1 => cases hc; cases hd; exact .refl _
 | 2 => cases hc; cases hd; exact .refl _
 | 3 => cases hc; cases hd; exact pwk_nil 4
 | j + 4 => simp [rawRow] at hc
theorem pwk_raws {l : List V} (h : ∀ x ∈ l, x.l = []) : PWk (.sl 4 (l.map rawRow)) (.sl 4 (V.rows l)) := by
 refine pwk_sl (by rw [rowsLen, List.length_map]) (fun i cs ds h1 h2 => ?_)
 rw [List.getElem?_map] at h1
 rw [rowsGet] at h2
 obtain ⟨x, hx, rfl⟩ := Option.map_eq_some_iff.1 h1
 rw [hx] at h2
 cases h2
 exact ⟨by rw [row4]; rfl, fun j c d hc hd => pwk_raw (h x (List.mem_of_getElem? hx)) j c d hc hd⟩
theorem sVals_l (x : Int) (t : List UInt8) : ∀ v ∈ sVals x t, v.l = [] := by
 intro v hv
 unfold sVals at hv
 simp only [List.mem_cons, List.not_mem_nil, or_false] at hv
 rcases hv with rfl | rfl | rfl <;> rfl
theorem sCls_ok : ClsOk sCls := by
 refine ⟨by unfold Short; decide, fun f hf => ?_, by decide⟩
 unfold sCls sFs at hf
 simp only [List.mem_cons, List.not_mem_nil, or_false] at hf
 rcases hf with rfl | rfl | rfl <;> (unfold Short; decide)
theorem sVals_few (x : Int) {t : List UInt8} (ht : t.length ≤ 60) : ∀ v ∈ sVals x t, VFew v ∧ VOk v := by
 intro v hv
 refine ⟨few0 (sVals_l x t v hv), ?_⟩
 unfold sVals at hv
 simp only [List.mem_cons, List.not_mem_nil, or_false] at hv
 rcases hv with rfl | rfl | rfl
 ·exact ⟨by unfold z78; simp [Vs], by simp [Vl]⟩
 ·exact ⟨by unfold z78; simp [Vs]; omega, by simp [Vl]⟩
 ·exact ⟨by unfold z78; simp [V.nil, Vs], by simp [V.nil, Vl]⟩
theorem sCls_right : z26 sCls = true := by kernel_rfl
theorem sVals_check {x : Int} {t : List UInt8} (hx : Rg x) (ht : z8 t = true) : check sCls (sVals x t) = (0, 0) := by
 refine check_ok sCls_right rfl (fun i f v hf hv => ?_)
 match i with
 | 0 => cases hf; cases hv; have := z41 x; rwa [numE_id hx.1 hx.2] at this
 | 1 => cases hf; cases hv; exact z87 ht
 | 2 => cases hf; cases hv; show fitsV V.nil ⟨3, 0⟩ = true; kernel_rfl
 | i + 3 => simp [sCls, sFs] at hf
theorem worthL_ok (m : Nat) {s : List UInt8} {e : V} (hp : parseV 60 s = some (e, 0, 0)) {x : Int} {t : List UInt8} (hx : Rg x) (ht : z8 t = true) (hy : (typeV sFs 8 e).2 = true) :
  SCalls Tryz.prog (glE m) 42 [S (str s), I x, S (str t)] [] (.tuple [tv (worthV sFs (sVals x t) 8 e), B true]) [] := by
 have hr := parse_rt hp
 have HP := sc_0E (parse_any m s hp)
 have HS := sample_ok (glE m)
 have HN := num6_ok (glE m) x
 have HT := text6_ok (glE m) t
 have HE := evEval_ok m sCls e (sVals x t) sCls_ok (z132 hr) (sVals_few x (right60 ht)) (by show 3 ≤ _; decide)
 have hA : evalA sCls (sVals x t) e = (worthV sFs (sVals x t) 8 e, 0) := by
  unfold evalA typeA
  rw [if_pos hr, if_pos sCls_right, if_pos (show (typeV sCls.fs 8 e).2 = true from hy), if_neg (by simp), sVals_check hx ht, if_neg (by simp)]
  rfl
 rw [hA] at HE
 have HE' : SCalls Tryz.prog (glE m) 34 [tv e, clT sCls, .pv (.sl 4 ((sVals x t).map rawRow))] [] (evalT (worthV sFs (sVals x t) 8 e, 0)) [] := HE.inp rfl (fun j c d hc hd => by
  match j with
  | 0 => cases hc; cases hd; exact .refl _
  | 1 => cases hc; cases hd; exact .refl _
  | 2 => cases hc; cases hd; exact wk_pv (pwk_raws (sVals_l x t))
  | j + 3 => simp at hc)
 unfold evalT at HE'
 rw [if_pos rfl] at HE'
 unfold parT at HP
 simp only [if_true] at HP
 generalize worthV sFs (sVals x t) 8 e = r at *
 unfold sVals rawRow V.nil at HE'
 simp only [List.map_cons, List.map_nil] at HE'
 refine z7 hmix tf_79 rfl ?_
 unfold B tv nv clT at *
 simp only [vcA, seval, vV, cmV]
 (with_reducible apply v_call); (· simp only [vcA, seval, vV, cmV]; with_reducible rfl); (· rfl); (· exact HP); (· first | rfl | (simp only [vcA, seval]; omega)); (· simp only [vcA, seval, vV, cmV]; with_reducible rfl)
 simp only [vcA, seval, vV, cmV]
 (with_reducible apply v_call); (· simp only [vcA, seval, vV, cmV]; with_reducible rfl); (· rfl); (· exact HS); (· first | rfl | (simp only [vcA, seval]; omega)); (· simp only [vcA, seval, vV, cmV]; with_reducible rfl)
 simp only [vcA, seval, vV, cmV]
 (with_reducible apply v_call); (· simp only [vcA, seval, vV, cmV]; with_reducible rfl); (· rfl); (· exact HN); (· first | rfl | (simp only [vcA, seval]; omega)); (· simp only [vcA, seval, vV, cmV]; with_reducible rfl)
 simp only [vcA, seval, vV, cmV]
 (with_reducible apply v_call); (· simp only [vcA, seval, vV, cmV]; with_reducible rfl); (· rfl); (· exact HT); (· first | rfl | (simp only [vcA, seval]; omega)); (· simp only [vcA, seval, vV, cmV]; with_reducible rfl)
 simp only [vcA, seval, vV, cmV]
 (with_reducible apply v_call); (· simp only [vcA, seval, vV, cmV]; with_reducible rfl); (· rfl); (· exact HE'); (· first | rfl | (simp only [vcA, seval]; omega)); (· simp only [vcA, seval, vV, cmV]; with_reducible rfl)
 simp only [vcA, seval, vV, cmV]
theorem isL_ok (m : Nat) {s : List UInt8} {e : V} (hp : parseV 60 s = some (e, 0, 0)) {x : Int} {t : List UInt8} (hx : Rg x) (ht : z8 t = true) (hy : (typeV sFs 8 e).2 = true) (w : V) (hw : worthV sFs (sVals x t) 8 e = w) (hl : w.l = []) :
  SCalls Tryz.prog (glE m) 39 [S (str s), I x, S (str t), nv w] [] (B true) [] := by
 have HW := worthL_ok m hp hx ht hy
 rw [hw] at HW
 have HS := refSame_ok (glE m) w w (few0 hl).small
 rw [decide_eq_true (z97 w)] at HS
 have HS' : SCalls Tryz.prog (glE m) 36 [tv w, nv w] [] (.pv (.v (.bool true))) [] := HS.inp rfl (fun j c d hc hd => by
  match j with
  | 0 => cases hc; cases hd; exact .refl _
  | 1 => cases hc; cases hd; exact nv_tv hl
  | j + 2 => simp at hc)
 refine z7 hmix tf_71 rfl ?_
 unfold B tv nv at *
 simp only [vcA, seval, vV, cmV]
 (with_reducible apply v_call); (· simp only [vcA, seval, vV, cmV]; with_reducible rfl); (· rfl); (· exact HW); (· first | rfl | (simp only [vcA, seval]; omega)); (· simp only [vcA, seval, vV, cmV]; with_reducible rfl)
 simp only [vcA, seval, vV, cmV]
 (with_reducible apply v_call); (· simp only [vcA, seval, vV, cmV]; with_reducible rfl); (· rfl); (· exact HS'); (· first | rfl | (simp only [vcA, seval]; omega)); (· simp only [vcA, seval, vV, cmV]; with_reducible rfl)
 simp only [vcA, seval, vV, cmV]
end Go.Proofs.YtmiokadmddjccaaGreatDoor
end

section
namespace Go.Proofs.YtmiokadmddjccaaGreatDoor
open Go Go.RowKit Go.Mor Go.Sh Go.Sh.Cd1 Go.Sh.Cd6
set_option maxRecDepth 100000
set_option maxHeartbeats 8000000
def aw0 : V := eO [47] fn' (eN 2)
theorem aw0_p : parseV 60 [110, 32, 47, 32, 50] = some (aw0, 0, 0) := by kernel_rfl
theorem aw0_t : (typeV sFs 8 aw0).2 = true := by kernel_rfl
theorem aw0_w : worthV sFs (sVals 7 [97, 98]) 8 aw0 = .mk 1 (3) [] [] := by kernel_rfl
def aw1 : V := eO [37] (eM fn') (eN 4)
theorem aw1_p : parseV 60 [45, 110, 32, 37, 32, 52] = some (aw1, 0, 0) := by kernel_rfl
theorem aw1_t : (typeV sFs 8 aw1).2 = true := by kernel_rfl
theorem aw1_w : worthV sFs (sVals 7 [97, 98]) 8 aw1 = .mk 1 (-3) [] [] := by kernel_rfl
def aw2 : V := eO [38] ft' (Go.Mor.eC nText [fn'])
theorem aw2_p : parseV 60 [116, 32, 38, 32, 116, 101, 120, 116, 40, 110, 41] = some (aw2, 0, 0) := by kernel_rfl
theorem aw2_t : (typeV sFs 8 aw2).2 = true := by kernel_rfl
theorem aw2_w : worthV sFs (sVals 7 [97, 98]) 8 aw2 = .mk 2 0 [97, 98, 55] [] := by kernel_rfl
def aw3 : V := eO [47] fn' (eN 0)
theorem aw3_p : parseV 60 [110, 32, 47, 32, 48] = some (aw3, 0, 0) := by kernel_rfl
theorem aw3_t : (typeV sFs 8 aw3).2 = true := by kernel_rfl
theorem aw3_w : worthV sFs (sVals 7 [97, 98]) 8 aw3 = .mk 1 (0) [] [] := by kernel_rfl
def aw4 : V := Go.Mor.eC nFind [ft', eT [98]]
theorem aw4_p : parseV 60 [102, 105, 110, 100, 40, 116, 44, 32, 34, 98, 34, 41] = some (aw4, 0, 0) := by kernel_rfl
theorem aw4_t : (typeV sFs 8 aw4).2 = true := by kernel_rfl
theorem aw4_w : worthV sFs (sVals 7 [97, 98]) 8 aw4 = .mk 1 (1) [] [] := by kernel_rfl
def aw5 : V := Go.Mor.eC nIf [eO [62] fn' (eN 5), Go.Mor.eC nLeft [ft', eN 1], eT []]
theorem aw5_p : parseV 60 [105, 102, 40, 110, 32, 62, 32, 53, 44, 32, 108, 101, 102, 116, 40, 116, 44, 32, 49, 41, 44, 32, 34, 34, 41] = some (aw5, 0, 0) := by kernel_rfl
theorem aw5_t : (typeV sFs 8 aw5).2 = true := by kernel_rfl
theorem aw5_w : worthV sFs (sVals 7 [97, 98]) 8 aw5 = .mk 2 0 [97] [] := by kernel_rfl
def awS : V := eO [43] fn' ft'
theorem awS_p : parseV 60 [110, 32, 43, 32, 116] = some (awS, 0, 0) := by kernel_rfl
theorem awS_t : typeA sCls awS = (ty0, 60) := by kernel_rfl
def awR : V := eF [114]
theorem awR_p : parseV 60 [114] = some (awR, 0, 0) := by kernel_rfl
theorem awR_t : typeA sCls awR = (⟨3, 0⟩, 0) := by kernel_rfl
theorem awR_e : evalA sCls [] awR = (V.nil, 42) := by kernel_rfl
theorem awN_t : typeA sCls V.nil = (ty0, 50) := by kernel_rfl
theorem awR_c : typeA ⟨[], []⟩ awR = (ty0, 40) := by kernel_rfl
theorem awake_ok (m : Nat) : SCalls Tryz.prog (glE m) 31 [] [] (B true) [] := by
 have hx : Rg 7 := ⟨by omega, by omega⟩
 have ht : z8 [97, 98] = true := by kernel_rfl
 have hab : (⟨#[97, 98]⟩ : ByteArray) = str [97, 98] := rfl
 have H0 := isL_ok m aw0_p hx ht aw0_t (.mk 1 (3) [] []) aw0_w rfl
 have q0 : (⟨#[110, 32, 47, 32, 50]⟩ : ByteArray) = str [110, 32, 47, 32, 50] := rfl
 have N0 := num6_ok (glE m) (3)
 have H1 := isL_ok m aw1_p hx ht aw1_t (.mk 1 (-3) [] []) aw1_w rfl
 have q1 : (⟨#[45, 110, 32, 37, 32, 52]⟩ : ByteArray) = str [45, 110, 32, 37, 32, 52] := rfl
 have N1 := num6_ok (glE m) (-3)
 have H2 := isL_ok m aw2_p hx ht aw2_t (.mk 2 0 [97, 98, 55] []) aw2_w rfl
 have q2 : (⟨#[116, 32, 38, 32, 116, 101, 120, 116, 40, 110, 41]⟩ : ByteArray) = str [116, 32, 38, 32, 116, 101, 120, 116, 40, 110, 41] := rfl
 have N2 := text6_ok (glE m) [97, 98, 55]
 have n2 : (⟨#[97, 98, 55]⟩ : ByteArray) = str [97, 98, 55] := rfl
 have H3 := isL_ok m aw3_p hx ht aw3_t (.mk 1 (0) [] []) aw3_w rfl
 have q3 : (⟨#[110, 32, 47, 32, 48]⟩ : ByteArray) = str [110, 32, 47, 32, 48] := rfl
 have N3 := num6_ok (glE m) (0)
 have H4 := isL_ok m aw4_p hx ht aw4_t (.mk 1 (1) [] []) aw4_w rfl
 have q4 : (⟨#[102, 105, 110, 100, 40, 116, 44, 32, 34, 98, 34, 41]⟩ : ByteArray) = str [102, 105, 110, 100, 40, 116, 44, 32, 34, 98, 34, 41] := rfl
 have N4 := num6_ok (glE m) (1)
 have H5 := isL_ok m aw5_p hx ht aw5_t (.mk 2 0 [97] []) aw5_w rfl
 have q5 : (⟨#[105, 102, 40, 110, 32, 62, 32, 53, 44, 32, 108, 101, 102, 116, 40, 116, 44, 32, 49, 41, 44, 32, 34, 34, 41]⟩ : ByteArray) = str [105, 102, 40, 110, 32, 62, 32, 53, 44, 32, 108, 101, 102, 116, 40, 116, 44, 32, 49, 41, 44, 32, 34, 34, 41] := rfl
 have N5 := text6_ok (glE m) [97]
 have n5 : (⟨#[97]⟩ : ByteArray) = str [97] := rfl
 have qS : (⟨#[110, 32, 43, 32, 116]⟩ : ByteArray) = str [110, 32, 43, 32, 116] := rfl
 have qR : (⟨#[114]⟩ : ByteArray) = str [114] := rfl
 have PS := sc_0E (parse_any m _ awS_p)
 have PR := sc_0E (parse_any m _ awR_p)
 have sS := z132 (parse_rt awS_p)
 have sR := z132 (parse_rt awR_p)
 have HC := sample_ok (glE m)
 have TS := evType_ok m sCls awS sCls_ok sS
 have TR := evType_ok m sCls awR sCls_ok sR
 have ER := evEval_ok m sCls awR [] sCls_ok sR (by simp) (by decide)
 have TN := evType_ok m sCls V.nil sCls_ok (.mk (by simp) (by simp) (by simp))
 have TC := evType_ok m ⟨[], []⟩ awR ⟨by unfold Short; decide, by simp, by decide⟩ sR
 rw [awS_t] at TS
 rw [awR_t] at TR
 rw [awR_e] at ER
 rw [awN_t] at TN
 rw [awR_c] at TC
 have ER' : SCalls Tryz.prog (glE m) 34 [tv awR, clT sCls, .pv (.v (.slice none 0 0))] [] (evalT (V.nil, 42)) [] := ER.inp rfl (fun j c d hc hd => by
  match j with
  | 0 => cases hc; cases hd; exact .refl _
  | 1 => cases hc; cases hd; exact .refl _
  | 2 => cases hc; cases hd; exact wk_nil 4
  | j + 3 => simp at hc)
 have TN' : SCalls Tryz.prog (glE m) 55 [nv V.nil, clT sCls] [] (typeT (ty0, 50)) [] := TN.inp rfl (fun j c d hc hd => by
  match j with
  | 0 => cases hc; cases hd; exact nv_tv rfl
  | 1 => cases hc; cases hd; exact .refl _
  | j + 2 => simp at hc)
 have TC' : SCalls Tryz.prog (glE m) 55 [tv awR, .agg [S (str []), .pv (.v (.slice none 0 0))]] [] (typeT (ty0, 40)) [] := TC.inp rfl (fun j c d hc hd => by
  match j with
  | 0 => cases hc; cases hd; exact .refl _
  | 1 =>
   cases hc; cases hd
   refine wk_agg rfl (fun i p q hp hq => ?_)
   match i with
   | 0 => cases hp; cases hq; exact .refl _
   | 1 => cases hp; cases hq; exact wk_nil 4
   | i + 2 => simp at hp
  | j + 2 => simp at hc)
 have eT : evalT (V.nil, 42) = .tuple [nv V.nil, I 42] := rfl
 rw [eT] at ER'
 have p1 : parT (awS, 0, 0) = .tuple [tv awS, I 0, I 0] := rfl
 have p2 : parT (awR, 0, 0) = .tuple [tv awR, I 0, I 0] := rfl
 rw [p1] at PS
 rw [p2] at PR
 have eqR : eqTy ⟨3, 0⟩ ⟨3, 0⟩ = true := rfl
 generalize awS = eS at *
 generalize awR = eR at *
 refine z7 hmix tf_70 rfl ?_
 unfold B tv nv clT typeT tyT ty0 V.nil at *
 simp only [vcA, seval, vV, cmV]
 (with_reducible apply v_call); (· simp only [vcA, seval, vV, cmV]; with_reducible rfl); (· rfl); (· exact N0); (· first | rfl | (simp only [vcA, seval]; omega)); (· simp only [vcA, seval, vV, cmV]; with_reducible rfl)
 simp only [vcA, seval, vV, cmV, hab, q0]
 (with_reducible apply v_call); (· simp only [vcA, seval, vV, cmV]; with_reducible rfl); (· rfl); (· exact H0); (· first | rfl | (simp only [vcA, seval]; omega)); (· simp only [vcA, seval, vV, cmV]; with_reducible rfl)
 simp only [vcA, seval, vV, cmV]
 (with_reducible apply v_call); (· simp only [vcA, seval, vV, cmV]; with_reducible rfl); (· rfl); (· exact N1); (· first | rfl | (simp only [vcA, seval]; omega)); (· simp only [vcA, seval, vV, cmV]; with_reducible rfl)
 simp only [vcA, seval, vV, cmV, hab, q1]
 (with_reducible apply v_call); (· simp only [vcA, seval, vV, cmV]; with_reducible rfl); (· rfl); (· exact H1); (· first | rfl | (simp only [vcA, seval]; omega)); (· simp only [vcA, seval, vV, cmV]; with_reducible rfl)
 simp only [vcA, seval, vV, cmV, n2]
 (with_reducible apply v_call); (· simp only [vcA, seval, vV, cmV]; with_reducible rfl); (· rfl); (· exact N2); (· first | rfl | (simp only [vcA, seval]; omega)); (· simp only [vcA, seval, vV, cmV]; with_reducible rfl)
 simp only [vcA, seval, vV, cmV, hab, q2, n2]
 (with_reducible apply v_call); (· simp only [vcA, seval, vV, cmV]; with_reducible rfl); (· rfl); (· exact H2); (· first | rfl | (simp only [vcA, seval]; omega)); (· simp only [vcA, seval, vV, cmV]; with_reducible rfl)
 simp only [vcA, seval, vV, cmV]
 (with_reducible apply v_call); (· simp only [vcA, seval, vV, cmV]; with_reducible rfl); (· rfl); (· exact N3); (· first | rfl | (simp only [vcA, seval]; omega)); (· simp only [vcA, seval, vV, cmV]; with_reducible rfl)
 simp only [vcA, seval, vV, cmV, hab, q3]
 (with_reducible apply v_call); (· simp only [vcA, seval, vV, cmV]; with_reducible rfl); (· rfl); (· exact H3); (· first | rfl | (simp only [vcA, seval]; omega)); (· simp only [vcA, seval, vV, cmV]; with_reducible rfl)
 simp only [vcA, seval, vV, cmV]
 (with_reducible apply v_call); (· simp only [vcA, seval, vV, cmV]; with_reducible rfl); (· rfl); (· exact N4); (· first | rfl | (simp only [vcA, seval]; omega)); (· simp only [vcA, seval, vV, cmV]; with_reducible rfl)
 simp only [vcA, seval, vV, cmV, hab, q4]
 (with_reducible apply v_call); (· simp only [vcA, seval, vV, cmV]; with_reducible rfl); (· rfl); (· exact H4); (· first | rfl | (simp only [vcA, seval]; omega)); (· simp only [vcA, seval, vV, cmV]; with_reducible rfl)
 simp only [vcA, seval, vV, cmV, n5]
 (with_reducible apply v_call); (· simp only [vcA, seval, vV, cmV]; with_reducible rfl); (· rfl); (· exact N5); (· first | rfl | (simp only [vcA, seval]; omega)); (· simp only [vcA, seval, vV, cmV]; with_reducible rfl)
 simp only [vcA, seval, vV, cmV, hab, q5, n5]
 (with_reducible apply v_call); (· simp only [vcA, seval, vV, cmV]; with_reducible rfl); (· rfl); (· exact H5); (· first | rfl | (simp only [vcA, seval]; omega)); (· simp only [vcA, seval, vV, cmV]; with_reducible rfl)
 simp only [vcA, seval, vV, cmV, qS]
 (with_reducible apply v_call); (· simp only [vcA, seval, vV, cmV]; with_reducible rfl); (· rfl); (· exact PS); (· first | rfl | (simp only [vcA, seval]; omega)); (· simp only [vcA, seval, vV, cmV]; with_reducible rfl)
 simp only [vcA, seval, vV, cmV]
 (with_reducible apply v_call); (· simp only [vcA, seval, vV, cmV]; with_reducible rfl); (· rfl); (· exact HC); (· first | rfl | (simp only [vcA, seval]; omega)); (· simp only [vcA, seval, vV, cmV]; with_reducible rfl)
 (with_reducible apply v_call); (· simp only [vcA, seval, vV, cmV]; with_reducible rfl); (· rfl); (· exact TS); (· first | rfl | (simp only [vcA, seval]; omega)); (· simp only [vcA, seval, vV, cmV]; with_reducible rfl)
 simp only [vcA, seval, vV, cmV, qR]
 (with_reducible apply v_call); (· simp only [vcA, seval, vV, cmV]; with_reducible rfl); (· rfl); (· exact PR); (· first | rfl | (simp only [vcA, seval]; omega)); (· simp only [vcA, seval, vV, cmV]; with_reducible rfl)
 simp only [vcA, seval, vV, cmV]
 (with_reducible apply v_call); (· simp only [vcA, seval, vV, cmV]; with_reducible rfl); (· rfl); (· exact HC); (· first | rfl | (simp only [vcA, seval]; omega)); (· simp only [vcA, seval, vV, cmV]; with_reducible rfl)
 (with_reducible apply v_call); (· simp only [vcA, seval, vV, cmV]; with_reducible rfl); (· rfl); (· exact TR); (· first | rfl | (simp only [vcA, seval]; omega)); (· simp only [vcA, seval, vV, cmV]; with_reducible rfl)
 simp only [vcA, seval, vV, cmV]
 (with_reducible apply v_call); (· simp only [vcA, seval, vV, cmV]; with_reducible rfl); (· rfl); (· exact HC); (· first | rfl | (simp only [vcA, seval]; omega)); (· simp only [vcA, seval, vV, cmV]; with_reducible rfl)
 (with_reducible apply v_call); (· simp only [vcA, seval, vV, cmV]; with_reducible rfl); (· rfl); (· exact ER'); (· first | rfl | (simp only [vcA, seval]; omega)); (· simp only [vcA, seval, vV, cmV]; with_reducible rfl)
 simp only [vcA, seval, vV, cmV]
 (with_reducible apply v_call); (· simp only [vcA, seval, vV, cmV]; with_reducible rfl); (· rfl); (· exact HC); (· first | rfl | (simp only [vcA, seval]; omega)); (· simp only [vcA, seval, vV, cmV]; with_reducible rfl)
 (with_reducible apply v_call); (· simp only [vcA, seval, vV, cmV]; with_reducible rfl); (· rfl); (· exact TN'); (· first | rfl | (simp only [vcA, seval]; omega)); (· simp only [vcA, seval, vV, cmV]; with_reducible rfl)
 simp only [vcA, seval, vV, cmV]
 (with_reducible apply v_call); (· simp only [vcA, seval, vV, cmV]; with_reducible rfl); (· rfl); (· exact TC'); (· first | rfl | (simp only [vcA, seval]; omega)); (· simp only [vcA, seval, vV, cmV]; with_reducible rfl)
 simp only [vcA, seval, vV, cmV, tyV, eqlTy, eqR]
end Go.Proofs.YtmiokadmddjccaaGreatDoor
end
