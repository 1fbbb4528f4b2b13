/- Layer 4: class.layText, class.Encode. -/
import Derived.Lib.AppendStr
import Derived.Test.YtdlolkogifigpaaDoorClass4
import Derived.Test.YtdlolkogifigpaaDoorWire6
namespace Go.Proofs.YtdlolkogifigpaaDoor
open Go Go.RowKit Go.Mor
set_option maxHeartbeats 1000000

/-- The slice v is the call's own (or nil) and holds the bytes l. -/
def OwnB (base : Nat) (w : World) (v : Value) (l : List UInt8) : Prop := w.ownsRow base 5 1 v l.length (l.map u8)
theorem strCells_str (l : List UInt8) : Lib.strCells (str l) = l.map u8 := by simp [Lib.strCells, str_toList, u8]
theorem OwnB.nil (base : Nat) (w : World) : OwnB base w (.slice none 0 0) [] := ⟨rfl, .inl ⟨rfl, rfl⟩⟩
theorem OwnB.below {base : Nat} {w : World} {v : Value} {l : List UInt8} (h : OwnB base w v l) : ∀ k, v.ownBlock = some k → base ≤ k := by
  rcases h.2 with ⟨rfl, _⟩ | ⟨g, cap, cur, rfl, hg, _⟩
  · intro k hk; cases hk
  · intro k hk; cases hk; exact hg
theorem OwnB.ext {base : Nat} {w w' : World} {v : Value} {l : List UInt8} (h : OwnB base w v l) (hb : Below w.heap.size w w') : OwnB base w' v l := by
  refine ⟨h.1, ?_⟩
  rcases h.2 with h | ⟨g, cap, cur, h1, h2, h3, h4⟩
  · exact .inl h
  · exact .inr ⟨g, cap, cur, h1, h2, (hb.block g (heap_lt h3)).trans h3, h4⟩
theorem OwnB.form {base : Nat} {w : World} {v : Value} {l : List UInt8} (h : OwnB base w v l) : ∃ p cap, v = .slice p l.length cap := by
  rcases h.2 with ⟨rfl, h0⟩ | ⟨g, cap, cur, h1, h2⟩
  · exact ⟨none, 0, by rw [h0]⟩
  · exact ⟨_, cap, h1⟩
theorem OwnB.formL {base : Nat} {w : World} {v : Value} {l : List UInt8} (h : OwnB base w v l) : ∃ L p cap, v = .slice p L.length cap ∧ Hid (L = l) ∧ Hid (OwnB base w (.slice p L.length cap) L) := by
  obtain ⟨p, cap, rfl⟩ := h.form
  exact ⟨l, p, cap, rfl, rfl, h⟩
theorem OwnB.ne {base : Nat} {w : World} {v : Value} {l : List UInt8} (h : OwnB base w v l) {B t : Nat} {cs : Array Value} (hq : w.heap[B]? = some (.cells cs t (0, 0))) (ht : t ≠ 5) : some B ≠ v.ownBlock := by
  rcases h.2 with ⟨rfl, _⟩ | ⟨g, cap, cur, rfl, hg, hc, _⟩
  · intro k; cases k
  · intro k; cases k; rw [hq] at hc; cases hc; exact ht rfl
theorem OwnB.keep {base : Nat} {w w' : World} {v : Value} {l : List UInt8} (h : OwnB base w v l) (hg : w.grownBy w' v.ownBlock) {B t : Nat} {cs : Array Value} (hq : w.heap[B]? = some (.cells cs t (0, 0))) (ht : t ≠ 5) : w'.heap[B]? = some (.cells cs t (0, 0)) :=
  (hg.block B (heap_lt hq) (h.ne hq ht)).trans hq
theorem grown_after_below {w w1 w2 : World} {row : Option Nat} (hb : Below w.heap.size w w1) (hg : w1.grownBy w2 row) : w.grownBy w2 row :=
  ⟨hg.os.trans hb.os, hg.tape.trans hb.tape, hg.output.trans hb.output, Nat.le_trans hb.size hg.size, fun k hk hn => (hg.block k (by have := hb.size; omega) hn).trans (hb.block k hk)⟩
/-- What append leaves. -/
theorem OwnB.appended {base : Nat} {w' : World} {v' : Value} {l m : List UInt8} (h1 : w'.ownsRow base 5 1 v' (l.length + (str m).size) (l.map u8 ++ Lib.strCells (str m))) :
    OwnB base w' v' (l ++ m) := by
  rw [strCells_str, str_size'] at h1
  unfold OwnB
  simpa using h1

/-- The operation append(v, m...) on bytes. -/
theorem wpList_appB {ops : Array Oper} {rest : List Oper} {o : Oper} {a : Act} {Q : Exit → Act → World → Prop} {w : World} (hgd : o.guard = none) (sl x : Operand)
    (ho : o.op = .call { callee := .builtin .append, args := #[sl, x], argTypes := #[54, 9] })
    {base : Nat} {v : Value} {l m : List UInt8} (hown : OwnB base w v l) (hs : a.eval sl = v) (hx : a.eval x = .string (str m)) (hlen : l.length + m.length ≤ 140737488355328) (hb : base ≤ w.heap.size)
    (h : ∀ v' w', OwnB base w' v' (l ++ m) → w.grownBy w' v.ownBlock → wpList Tryd.prog ops Q rest (a.put o.dst v') w') : wpList Tryd.prog ops Q (o :: rest) a w := by
  obtain ⟨i0, hi, hz0, hz1, hz2⟩ := info_parts infoU8
  refine Lib.wpList_append_own_string w hgd sl x 54 9 ho base 5 i0 Tryd.underlying54 Tryd.underlying9 hi hz0 hz1 hz2 v l.length (l.map u8) hs hown (str m) hx (by unfold maxLen; simp; omega) (by simp; omega) hb ?_
  intro v' w' h1 h2 _
  exact h v' w' (OwnB.appended h1) h2

theorem text_length_le (s : List UInt8) (h : s.length ≤ 10000) : (text s).length ≤ 20000 := by
  have := num_length (s.length : Int)
  simp only [text, List.length_append]; omega

set_option maxRecDepth 10000 in
theorem layText_any (base : Nat) (v : Value) (l s : List UInt8) (w : World) (hs : s.length ≤ 200) (hl : l.length ≤ 1000000) (hv : OwnB base w v l) (hb : base ≤ w.heap.size) :
    Calls Tryd.prog 45 #[v, .string (str s)] w fun e w' => (∃ L p cap, e = .returned (.slice p L.length cap) ∧ Hid (L = l ++ text s) ∧ Hid (OwnB base w' (.slice p L.length cap) L)) ∧ w.grownBy w' v.ownBlock := by
  have HT := Lib.hid (Text_any s w (by omega))
  have hlen : l.length + (text s).length ≤ 140737488355328 := by have := text_length_le s (by omega); omega
  rw [textRes, if_pos (by omega)] at HT
  have HV := Lib.hid hv
  obtain ⟨p, cap, rfl⟩ := hv.form
  clear hv
  go_enter Tryd.func45, Tryd.ntmps45
  go_wp2_with fail
  refine HT.out.mono ?_
  rintro e w1 ⟨rfl, hb1⟩
  have hv1 := HV.out.ext hb1
  have hz : base ≤ w1.heap.size := by have := hb1.size; omega
  go_wp2_with (at_builtin; refine wpList_appB rfl _ _ rfl hv1 rfl rfl hlen hz ?_; intro v' wA0 hown' hgr0; obtain ⟨LA0, pA0, cA0, rfl, hLA0, hown0⟩ := hown'.formL; clear hown'; skip)
  refine bodyPost_ret (v := .slice pA0 LA0.length cA0) (by simp [results, Tryd.results45, go_sem]) rfl ?_
  exact ⟨⟨LA0, _, _, rfl, hLA0, hown0⟩, grown_after_below hb1 hgr0⟩

theorem rightClass_bounds {n : List UInt8} {l : List Fld} (h : rightClass ⟨n, l⟩ = true) : n.length ≤ 20 ∧ l.length ≤ 8 ∧ ∀ f ∈ l, rightField f = true := by
  have go : ∀ (m : List Fld) (k : Nat), onceGo l k m = true → ∀ f ∈ m, rightField f = true := by
    intro m
    induction m with
    | nil => intro k _ f hf; cases hf
    | cons g r ih =>
      intro k hk f hf
      simp only [onceGo, Bool.and_eq_true] at hk
      rcases List.mem_cons.1 hf with rfl | hf
      · exact hk.1.1
      · exact ih _ hk.2 f hf
  simp only [rightClass, Bool.and_eq_true, decide_eq_true_eq, rightName] at h
  exact ⟨h.1.1.1.1.2, h.1.2, go _ _ h.2⟩
theorem rightField_bounds {f : Fld} (h : rightField f = true) : f.n.length ≤ 20 ∧ 1 ≤ f.t.k ∧ f.t.k ≤ 5 ∧ 0 ≤ f.t.o ∧ f.t.o ≤ 4 := by
  simp only [rightField, Bool.and_eq_true, rightName, decide_eq_true_eq] at h
  refine ⟨h.1.1.1.1.2, ?_⟩
  have := h.1.2
  simp only [rightType] at this
  split at this <;> simp at this <;> omega
def encF (f : Fld) : List UInt8 := text f.n ++ num f.t.k ++ num f.t.o ++ num (if f.ix then 1 else 0)
def encFs (l : List Fld) : List UInt8 := l.flatMap encF
def encode (c : Cls) : List UInt8 := text c.n ++ num c.fs.length ++ encFs c.fs
def encRes (c : Cls) : Value := if rightClass c then .tuple #[.string (str (encode c)), .int .i64 0] else .tuple #[.string (str []), .int .i64 40]

theorem encFs_take (l : List Fld) (k : Nat) (x : Fld) (h : l[k]? = some x) : encFs (l.take (k + 1)) = encFs (l.take k) ++ encF x := by
  obtain ⟨hk, rfl⟩ := List.getElem?_eq_some_iff.1 h
  rw [encFs, List.take_succ_eq_append_getElem hk, List.flatMap_append]
  simp [encFs]

set_option maxRecDepth 10000 in
theorem Encode_any (n : List UInt8) (l : List Fld) (c : Value) (w : World) (hn : n.length ≤ 9223372036854775807) (hl : FTextsOk l) (hL : IsF (fun _ => True) w l c) :
    Calls Tryd.prog 19 #[.agg #[.string (str n), c]] w fun e w' => e = .returned (encRes ⟨n, l⟩) ∧ Below w.heap.size w w' := by
  have hL0 := hL
  obtain ⟨b, off, cap, p, rfl, hcap, hmax, hp, hc⟩ := hL
  unfold maxLen at hmax
  have hB1 : Below w.heap.size w (w.alloc (.cells #[.string (str n), .slice p l.length cap] 27)) := (Below.refl _ _).alloc (Nat.le_refl _) _
  have q0 : (w.alloc (.cells #[.string (str n), .slice p l.length cap] 27)).heap[w.heap.size]? = some (.cells #[.string (str n), .slice p l.length cap] 27 (0, 0)) := World.alloc_heap_new w _
  have HR := Lib.hid (CRight_any n l _ _ hn hl (hL0.ext hB1))
  have HP := Lib.hid hp
  have HC := Lib.hid hc
  have HL := Lib.hid hL0
  have Q0 := Lib.hid q0
  clear hp hc hL0 q0
  go_enter Tryd.func19, Tryd.ntmps19
  go_wp2_with fail
  refine HR.out.mono ?_
  rintro e w1 ⟨rfl, hb1⟩
  have hB2 := hB1.trans (hb1.mono (by simp))
  cases hr : rightClass ⟨n, l⟩
  · have H1 := Lib.hid hr
    clear hr
    go_wp2_with fail
    go_ret2
    exact ⟨by simp [encRes, H1.out]; rfl, hB2⟩
  · have H1 := Lib.hid hr
    obtain ⟨hnl, hll, hfs⟩ := rightClass_bounds hr
    have HFS := Lib.hid hfs
    clear hfs
    clear hr
    have q2 := (hb1.block w.heap.size (heap_lt Q0.out)).trans Q0.out
    obtain ⟨d0, d1⟩ := blk2 q2
    have Q2 := Lib.hid q2
    clear q2
    go_wp2_with fail
    have hB2s := hB2.size
    refine (layText_any w1.heap.size _ [] n w1 (by omega) (by simp) (OwnB.nil _ _) (Nat.le_refl _)).mono ?_
    rintro e w2 ⟨⟨L2, p2, c2, rfl, hL2, ho2⟩, hg2⟩
    have hb2 := (Below.refl w1.heap.size w1).grown hg2 (Nat.le_refl _) (OwnB.nil w1.heap.size w1).below
    have q3 := (hb2.block w.heap.size (heap_lt Q2.out)).trans Q2.out
    obtain ⟨d0', d1'⟩ := blk2 q3
    have Q3 := Lib.hid q3
    clear q3 d0 d1
    have hL2l : L2.length ≤ 20000 := by rw [hL2.out, List.nil_append]; exact text_length_le n (by omega)
    go_wp2_with fail
    refine (Num_any l.length (by omega) (by omega) _).mono ?_
    rintro e w3 ⟨rfl, hb3⟩
    have ho3 := ho2.out.ext hb3
    have hlen : L2.length + (num l.length).length ≤ 140737488355328 := by have := num_length l.length; omega
    have hz : w1.heap.size ≤ w3.heap.size := by have := hb3.size; have := hb2.size; omega
    have Q3' := Lib.hid ((hb3.block w.heap.size (heap_lt Q3.out)).trans Q3.out)
    have hw1 : w.heap.size < w1.heap.size := heap_lt Q2.out
    clear d0' d1'
    go_wp2_with (at_builtin; refine wpList_appB rfl _ _ rfl ho3 rfl rfl hlen hz ?_; intro v' wA0 hown' hgr0; obtain ⟨LA0, pA0, cA0, rfl, hLA0, hown0⟩ := hown'.formL; clear hown'; have q4 := ho3.keep hgr0 Q3'.out (by decide); obtain ⟨y0, y1⟩ := blk2 q4; have Q4 := Lib.hid q4; clear q4)
    have hL0l : LA0.length ≤ 30000 := by
      have := num_length l.length; rw [hLA0.out, List.length_append]; omega
    clear hlen
    have hBA : Below w1.heap.size w1 wA0 := (hb2.trans (hb3.mono (by have := hb2.size; omega))).grown hgr0 hz ho3.below
    go_loopw [4, 22] (fun s i wr => ∃ (k : Nat) (L : List UInt8) (pL : Option Addr) (cL : Nat), k ≤ l.length ∧ i = .int .i64 k ∧ s = .slice pL L.length cL ∧ Hid (OwnB w1.heap.size wr (.slice pL L.length cL) L) ∧ Below w1.heap.size w1 wr ∧ Hid (L = LA0 ++ encFs (l.take k)) ∧ L.length ≤ 30000 + 30000 * k) (fun _ i _ => l.length - (intOf i).toNat)
    case atStart => exact ⟨0, LA0, pA0, cA0, Nat.zero_le _, rfl, rfl, hown0, hBA, by show _ = _; simp [encFs], by omega⟩
    case round =>
      obtain ⟨k, L, pL, cL, hk, rfl, rfl, hO, hb, hLk, hLl⟩ := hrel
      by_cases hlt : k < l.length
      · obtain ⟨x, hx⟩ : ∃ x, l[k]? = some x := ⟨_, List.getElem?_eq_getElem hlt⟩
        obtain ⟨rfl, _⟩ := HP.out (by rintro rfl; simp at hlt)
        obtain ⟨h0, h1, h2, h3⟩ := HC.out k x hx
        obtain ⟨z0, z1, z2, z3, z4⟩ := rightField_bounds (HFS.out x (List.mem_of_getElem? hx))
        have hBr := hB2.trans (hb.mono hB2s)
        have e0 := (hBr.cell (cell_lt h0)).trans h0
        have e1 := (hBr.cell (cell_lt h1)).trans h1
        have e2 := (hBr.cell (cell_lt h2)).trans h2
        have e3 := (hBr.cell (cell_lt h3)).trans h3
        have hBa : Below wr.heap.size wr (wr.alloc (.cells #[.string (str x.n), .int .i64 x.t.k, .int .i64 x.t.o, .bool x.ix] 53)) := (Below.refl _ _).alloc (Nat.le_refl _) _
        have qa : (wr.alloc (.cells #[.string (str x.n), .int .i64 x.t.k, .int .i64 x.t.o, .bool x.ix] 53)).heap[wr.heap.size]? = some (.cells #[.string (str x.n), .int .i64 x.t.k, .int .i64 x.t.o, .bool x.ix] 53 (0, 0)) := World.alloc_heap_new wr _
        have QA := Lib.hid qa
        have HX := Lib.hid hx
        clear qa hx h0 h1 h2 h3
        go_wp2_with fail
        obtain ⟨W2, hW2⟩ : ∃ W2, wr.alloc (.cells #[.string (str x.n), .int .i64 x.t.k, .int .i64 x.t.o, .bool x.ix] 53) = W2 := ⟨_, rfl⟩
        rw [hW2] at QA hBa ⊢
        clear hW2 e0 e1 e2 e3
        have hs1 := hb.size
        have hs2 := hBa.size
        refine (layText_any w1.heap.size _ L x.n W2 (by omega) (by omega) (hO.out.ext hBa) (by omega)).mono ?_
        rintro e W3 ⟨⟨L3, p3, c3, rfl, hL3, hO3⟩, hg3⟩
        have hO2 := hO.out.ext hBa
        have qb := hO2.keep hg3 QA.out (by decide)
        have hb4 := (hb.trans (hBa.mono hs1)).grown hg3 (by omega) hO2.below
        have hs3 := hb4.size
        obtain ⟨f0, f1, f2, f3⟩ := blk4 qb
        have QB := Lib.hid qb
        have hL3l : L3.length ≤ 50100 + 30000 * k := by rw [hL3.out, List.length_append]; have := text_length_le x.n (by omega); omega
        clear qb QA hO2
        go_wp2_with fail
        refine (Num_any x.t.k (by omega) (by omega) _).mono ?_
        rintro e W4 ⟨rfl, hb5⟩
        have hO4 := hO3.out.ext hb5
        have qc := (hb5.block _ (heap_lt QB.out)).trans QB.out
        have QC := Lib.hid qc
        have hlen : L3.length + (num x.t.k).length ≤ 140737488355328 := by have := num_length x.t.k; omega
        have hz4 : w1.heap.size ≤ W4.heap.size := by have := hb5.size; omega
        clear f0 f1 f2 f3 qc
        go_wp2_with (at_builtin; refine wpList_appB rfl _ _ rfl hO4 rfl rfl hlen hz4 ?_; intro v' wA1 hown' hgr1; obtain ⟨LA1, pA1, cA1, rfl, hLA1, hown1⟩ := hown'.formL; clear hown'; have qd := hO4.keep hgr1 QC.out (by decide); obtain ⟨f0, f1, f2, f3⟩ := blk4 qd; have QD := Lib.hid qd; clear qd)
        have hb6 := (hb4.trans (hb5.mono hs3)).grown hgr1 hz4 hO4.below
        have hs6 := hb6.size
        have hl1 : LA1.length ≤ 50110 + 30000 * k := by rw [hLA1.out, List.length_append]; have := num_length x.t.k; omega
        clear f0 f1 f2 f3 QB QC hlen hz4 hO4
        refine (Num_any x.t.o (by omega) (by omega) _).mono ?_
        rintro e W5 ⟨rfl, hb7⟩
        have hO5 := hown1.out.ext hb7
        have QE := Lib.hid ((hb7.block _ (heap_lt QD.out)).trans QD.out)
        have hlen : LA1.length + (num x.t.o).length ≤ 140737488355328 := by have := num_length x.t.o; omega
        have hz5 : w1.heap.size ≤ W5.heap.size := by have := hb7.size; omega
        have hl2 : LA1.length + (num x.t.o).length ≤ 50120 + 30000 * k := by have := num_length x.t.o; omega
        obtain ⟨xn, xt, xi⟩ := x
        dsimp only at *
        cases xi
        all_goals
          go_wp2_with (at_builtin; refine wpList_appB rfl _ _ rfl hO5 rfl rfl hlen hz5 ?_; intro v' wA2 hown' hgr2; obtain ⟨LA2, pA2, cA2, rfl, hLA2, hown2⟩ := hown'.formL; clear hown'; have qd := hO5.keep hgr2 QE.out (by decide); obtain ⟨f0, f1, f2, f3⟩ := blk4 qd; clear qd)
          have hb8 := (hb6.trans (hb7.mono hs6)).grown hgr2 hz5 hO5.below
          have hs8 := hb8.size
          have hl3 : LA2.length ≤ 50120 + 30000 * k := by rw [hLA2.out, List.length_append]; omega
          clear f0 f1 f2 f3
        · refine (Num_any 0 (by omega) (by omega) _).mono ?_
          rintro e W6 ⟨rfl, hb9⟩
          have hO6 := hown2.out.ext hb9
          have hlen6 : LA2.length + (num 0).length ≤ 140737488355328 := by have := num_length 0; omega
          have hz6 : w1.heap.size ≤ W6.heap.size := by have := hb9.size; omega
          go_wp2_with (at_builtin; refine wpList_appB rfl _ _ rfl hO6 rfl rfl hlen6 hz6 ?_; intro v' wA3 hown' hgr3; obtain ⟨LA3, pA3, cA3, rfl, hLA3, hown3⟩ := hown'.formL; clear hown'; skip)
          have hb10 := (hb8.trans (hb9.mono hs8)).grown hgr3 hz6 hO6.below
          have hl4 : LA3.length ≤ 50130 + 30000 * k := by rw [hLA3.out, List.length_append]; have := num_length 0; omega
          refine ⟨⟨k + 1, LA3, pA3, cA3, by omega, rfl, rfl, hown3, hb10, ?_, by omega⟩, by simp [intOf]; omega⟩
          show _ = _
          rw [hLA3.out, hLA2.out, hLA1.out, hL3.out, hLk.out, encFs_take l k _ HX.out]
          simp [encF, List.append_assoc]
        · refine (Num_any 1 (by omega) (by omega) _).mono ?_
          rintro e W6 ⟨rfl, hb9⟩
          have hO6 := hown2.out.ext hb9
          have hlen6 : LA2.length + (num 1).length ≤ 140737488355328 := by have := num_length 1; omega
          have hz6 : w1.heap.size ≤ W6.heap.size := by have := hb9.size; omega
          go_wp2_with (at_builtin; refine wpList_appB rfl _ _ rfl hO6 rfl rfl hlen6 hz6 ?_; intro v' wA3 hown' hgr3; obtain ⟨LA3, pA3, cA3, rfl, hLA3, hown3⟩ := hown'.formL; clear hown'; skip)
          have hb10 := (hb8.trans (hb9.mono hs8)).grown hgr3 hz6 hO6.below
          have hl4 : LA3.length ≤ 50130 + 30000 * k := by rw [hLA3.out, List.length_append]; have := num_length 1; omega
          refine ⟨⟨k + 1, LA3, pA3, cA3, by omega, rfl, rfl, hown3, hb10, ?_, by omega⟩, by simp [intOf]; omega⟩
          show _ = _
          rw [hLA3.out, hLA2.out, hLA1.out, hL3.out, hLk.out, encFs_take l k _ HX.out]
          simp [encF, List.append_assoc]
      · have hcv := conv_row (P := Tryd.prog) Tryd.underlying54 Tryd.underlying5 Tryd.underlying9 hO.out
        go_wp2_with fail
        go_ret2
        refine ⟨?_, hB2.trans (hb.mono hB2s)⟩
        rw [encRes, if_pos H1.out, hLk.out, hLA0.out, hL2.out, List.take_of_length_le (by omega)]
        simp [encode]
end Go.Proofs.YtdlolkogifigpaaDoor
