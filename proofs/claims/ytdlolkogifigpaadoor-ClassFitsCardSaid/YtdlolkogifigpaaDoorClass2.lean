/- Layer 4: class.Field, class.Right. -/
import Derived.Test.YtdlolkogifigpaaDoorClass1
namespace Go.Proofs.YtdlolkogifigpaaDoor
open Go Go.RowKit Go.Mor
set_option maxHeartbeats 1000000

/-- Its texts are no longer than texts can be. -/
def FTextsOk (l : List Fld) : Prop := ∀ f ∈ l, f.n.length ≤ 9223372036854775807

set_option maxRecDepth 10000 in
theorem rightField_any (f : Fld) (w : World) (hs : f.n.length ≤ 9223372036854775807) :
    Calls Tryd.prog 52 #[.agg #[.string (str f.n), .int .i64 f.t.k, .int .i64 f.t.o, .bool f.ix]] w fun e w' => e = .returned (.bool (rightField f)) ∧ Below w.heap.size w w' := by
  obtain ⟨fn, ft, fx⟩ := f
  dsimp only at *
  have hB1 : Below w.heap.size w (w.alloc (.cells #[.string (str fn), .int .i64 ft.k, .int .i64 ft.o, .bool fx] 53)) := (Below.refl _ _).alloc (Nat.le_refl _) _
  have HN := Lib.hid (fun W => rightName_any fn W hs)
  go_enter Tryd.func52, Tryd.ntmps52
  go_wp2_with fail
  refine (HN.out _).mono ?_
  rintro e w1 ⟨rfl, rfl⟩
  cases hn : rightName fn
  · have H1 := Lib.hid hn
    clear hn
    go_wp2_with fail
    go_ret
    exact ⟨bret (by simp [rightField, H1.out]), hB1⟩
  · have H1 := Lib.hid hn
    clear hn
    go_wp2_with fail
    refine (RightType_any ft _).mono ?_
    rintro e w2 ⟨rfl, hb2⟩
    obtain ⟨hc, hf⟩ := bcell hb2
    have hB2 := hB1.trans (hb2.mono (by simp))
    cases ht : rightType ft
    · have H2 := Lib.hid ht
      clear ht
      go_wp2_with fail
      go_ret
      exact ⟨bret (by simp [rightField, H2.out]), hB2⟩
    · have H2 := Lib.hid ht
      clear ht
      cases fx
      all_goals
        go_wp2_with fail
        all_goals go_ret
        all_goals exact ⟨bret (by simp [rightField, H1.out, H2.out]), hB2⟩

theorem field1_any (f : Fld) (name : List UInt8) (B : Nat) (w : World) (hc : w.cell? ⟨B, 0, none⟩ = some (.string (str name))) :
    Calls Tryd.prog 54 #[.agg #[.string (str f.n), .int .i64 f.t.k, .int .i64 f.t.o, .bool f.ix], .pointer (some ⟨B, 0, none⟩)] w fun e w' => e = .returned (.bool (f.n == name)) ∧ Below w.heap.size w w' := by
  have hB1 : Below w.heap.size w (w.alloc (.cells #[.string (str f.n), .int .i64 f.t.k, .int .i64 f.t.o, .bool f.ix] 53)) := (Below.refl _ _).alloc (Nat.le_refl _) _
  have hlt := cell_lt hc
  dsimp only at hlt
  go_enter Tryd.func54, Tryd.ntmps54
  go_wp2_with fail
  go_ret
  exact ⟨rfl, hB1⟩
theorem en_field1 : Enters Tryd.prog 54 := enters_mk Tryd.func54 (by kernel_rfl) rfl

/-- The function value asks p of a field: whatever has been made since w. -/
def AsksF (w : World) (f : FuncId) (caps : Array Value) (l : List Fld) (p : Fld → Bool) : Prop :=
  ∀ (x : Fld) (w1 : World), x ∈ l → Below w.heap.size w w1 →
    Calls Tryd.prog f (#[.agg #[.string (str x.n), .int .i64 x.t.k, .int .i64 x.t.o, .bool x.ix]] ++ caps) w1 fun e w2 => e = .returned (.bool (p x)) ∧ Below w1.heap.size w1 w2

set_option maxRecDepth 4000 in
theorem indexF_any (l : List Fld) (c : Value) (f : FuncId) (caps : Array Value) (p : Fld → Bool) (w : World) (hL : IsF (fun _ => True) w l c) (hf : AsksF w f caps l p) (hen : Enters Tryd.prog f) :
    Calls Tryd.prog 53 #[c, .func (.func f) #[] caps] w fun e w' => e = .returned (.int .i64 (firstAt p l)) ∧ Below w.heap.size w w' := by
  obtain ⟨b, off, cap, q, rfl, hcap, hmax, hp, hc⟩ := hL
  unfold maxLen at hmax
  go_enter Tryd.func53, Tryd.ntmps53
  go_wp2_with fail
  go_loopw [8] (fun i wr => ∃ k : Nat, k ≤ l.length ∧ i = .int .i64 k ∧ Below w.heap.size w wr ∧ Hid (∀ (i : Nat) y, i < k → l[i]? = some y → p y = false)) (fun i _ => l.length - (intOf i).toNat)
  case atStart => exact ⟨0, Nat.zero_le _, rfl, Below.refl _ _, fun i y h => absurd h (by omega)⟩
  case round =>
    obtain ⟨k, hk, rfl, hb, hno⟩ := hrel
    by_cases hlt : k < l.length
    · obtain ⟨x, hx⟩ : ∃ x, l[k]? = some x := ⟨_, List.getElem?_eq_getElem hlt⟩
      obtain ⟨rfl, _⟩ := hp (by rintro rfl; simp at hlt)
      obtain ⟨h0, h1, h2, h3⟩ := hc k x hx
      have e0 := (hb.cell (cell_lt h0)).trans h0
      have e1 := (hb.cell (cell_lt h1)).trans h1
      have e2 := (hb.cell (cell_lt h2)).trans h2
      have e3 := (hb.cell (cell_lt h3)).trans h3
      have HF := Lib.hid (hf x wr (List.mem_of_getElem? hx) hb)
      have HX := Lib.hid hx
      have hen' := fun args w => hen args w
      clear hx h0 h1 h2 h3 hc hp hf hen
      go_wp2_with fail
      refine HF.out.mono ?_
      rintro e w2 ⟨rfl, hb2⟩
      have hb3 := hb.trans (hb2.mono hb.size)
      cases hpx : p x
      · clear hen'
        have HP := Lib.hid hpx
        clear hpx
        go_wp2_with fail
        go_roundw
        case rel =>
          refine ⟨k + 1, by omega, by go_num, hb3, fun i y hi hy => ?_⟩
          rcases Nat.lt_or_ge i k with h | h
          · exact hno i y h hy
          · obtain rfl : i = k := by omega
            have := hy.symm.trans HX.out
            injection this with this
            subst this
            exact HP.out
        case measure => simp [intOf]; omega
      · clear hen'
        have HP := Lib.hid hpx
        clear hpx
        go_wp2_with fail
        go_ret
        exact ⟨iret (firstAt_some p l k x HX.out HP.out hno).symm, hb3⟩
    · clear hp hc hf hen
      go_wp2_with fail
      go_ret
      refine ⟨iret (firstAt_none p l fun i y hy => hno.out i y ?_ hy).symm, hb⟩
      have := (List.getElem?_eq_some_iff.1 hy).1
      omega

theorem Field_any (n : List UInt8) (l : List Fld) (c : Value) (name : List UInt8) (w : World) (hL : IsF (fun _ => True) w l c) :
    Calls Tryd.prog 24 #[.agg #[.string (str n), c], .string (str name)] w fun e w' => e = .returned (fieldRes l name) ∧ Below w.heap.size w w' := by
  obtain ⟨p, cap, rfl, hcap, hmax⟩ := hL.form
  have hB2 : Below w.heap.size w ((w.alloc (.cells #[.string (str n), .slice p l.length cap] 27)).alloc (.cells #[.string (str name)] 9)) := ((Below.refl _ _).alloc (Nat.le_refl _) _).alloc (by simp) _
  have q1 : ((w.alloc (.cells #[.string (str n), .slice p l.length cap] 27)).alloc (.cells #[.string (str name)] 9)).heap[w.heap.size + 1]? = some (.cells #[.string (str name)] 9 (0, 0)) := by
    have := World.alloc_heap_new (w.alloc (.cells #[.string (str n), .slice p l.length cap] 27)) (.cells #[.string (str name)] 9)
    rwa [World.size_alloc] at this
  have HC := Lib.hid (indexF_any l (.slice p l.length cap) 54 #[.pointer (some ⟨w.heap.size + 1, 0, none⟩)] (fun f => f.n == name) _ (hL.ext hB2) (by
    intro x w1 hx hb
    have h1 := (hb.block (w.heap.size + 1) (heap_lt q1)).trans q1
    have := field1_any x name (w.heap.size + 1) w1 (blk_cells' h1 0)
    simpa using this) en_field1)
  clear q1 hL
  go_enter Tryd.func24, Tryd.ntmps24
  go_wp2_with fail
  refine HC.out.mono ?_
  rintro e w1 ⟨rfl, hb1⟩
  have hB3 := hB2.trans (hb1.mono (by simp; omega))
  by_cases hneg : fieldAt l name < 0
  · have hneg' : firstAt (fun f => f.n == name) l < 0 := hneg
    have HNG := Lib.hid hneg
    clear hneg
    go_wp2_with fail
    go_ret2
    exact ⟨by rw [fieldRes, if_pos HNG.out]; rfl, hB3⟩
  · have hneg' : ¬ firstAt (fun f => f.n == name) l < 0 := hneg
    have HNG := Lib.hid hneg
    clear hneg
    go_wp2_with fail
    go_ret2
    exact ⟨by rw [fieldRes, if_neg (by have := HNG.out; omega)]; rfl, hB3⟩

theorem fieldAt_mem (l : List Fld) (k : Nat) (f : Fld) (h : l[k]? = some f) : 0 ≤ fieldAt l f.n := by
  have h1 := firstAt_nonneg (fun g : Fld => g.n == f.n) l
  have h2 : l.any (fun g => g.n == f.n) = true := List.any_eq_true.2 ⟨f, List.mem_of_getElem? h, by simp⟩
  rw [h2] at h1
  exact of_decide_eq_true h1
theorem fieldRes_mem {l : List Fld} {n : List UInt8} (h : 0 ≤ fieldAt l n) : fieldRes l n = .tuple #[.int .i64 (fieldAt l n), .bool true] := by
  rw [fieldRes, if_neg (by omega)]
theorem onceGo_drop (l : List Fld) (k : Nat) (f : Fld) (h : l[k]? = some f) : onceGo l k (l.drop k) = (rightField f && fieldAt l f.n == k && onceGo l (k + 1) (l.drop (k + 1))) := by
  obtain ⟨hk, rfl⟩ := List.getElem?_eq_some_iff.1 h
  rw [List.drop_eq_getElem_cons hk]
  rfl

set_option maxRecDepth 10000 in
theorem CRight_any (n : List UInt8) (l : List Fld) (c : Value) (w : World) (hn : n.length ≤ 9223372036854775807) (hl : FTextsOk l) (hL : IsF (fun _ => True) w l c) :
    Calls Tryd.prog 22 #[.agg #[.string (str n), c]] w fun e w' => e = .returned (.bool (rightClass ⟨n, l⟩)) ∧ Below w.heap.size w w' := by
  have hL0 := hL
  obtain ⟨b, off, cap, p, rfl, hcap, hmax, hp, hc⟩ := hL
  unfold maxLen at hmax
  have hB1 : Below w.heap.size w (w.alloc (.cells #[.string (str n), .slice p l.length cap] 27)) := (Below.refl _ _).alloc (Nat.le_refl _) _
  have q0 : (w.alloc (.cells #[.string (str n), .slice p l.length cap] 27)).heap[w.heap.size]? = some (.cells #[.string (str n), .slice p l.length cap] 27 (0, 0)) := World.alloc_heap_new w _
  have hz : (w.alloc (.cells #[.string (str n), .slice p l.length cap] 27)).heap.size = w.heap.size + 1 := by simp
  have HN := Lib.hid (fun W => rightName_any n W hn)
  have HL := Lib.hid hL0
  have HC := Lib.hid hc
  have HT := Lib.hid hl
  have HP := Lib.hid hp
  clear hL0 hc hl hp
  by_cases h8 : l.length ≤ 8
  · go_enter Tryd.func22, Tryd.ntmps22
    go_wp2_with fail
    refine (HN.out _).mono ?_
    rintro e w1 ⟨rfl, rfl⟩
    cases hrn : rightName n
    · have H1 := Lib.hid hrn
      clear hrn q0 hz
      go_wp2_with fail
      go_ret
      exact ⟨bret (by simp [rightClass, H1.out]), hB1⟩
    · have H1 := Lib.hid hrn
      clear hrn
      have Q0 := Lib.hid q0
      have HZ := Lib.hid hz
      clear q0 hz
      go_wp2_with fail
      obtain ⟨W1, hW1⟩ : ∃ W1, w.alloc (.cells #[.string (str n), .slice p l.length cap] 27) = W1 := ⟨_, rfl⟩
      rw [hW1] at Q0 HZ hB1 ⊢
      clear hW1
      go_loopw [20] (fun i wr => ∃ k : Nat, k ≤ l.length ∧ i = .int .i64 k ∧ Below W1.heap.size W1 wr ∧ Hid (onceGo l k (l.drop k) = onceGo l 0 l)) (fun i _ => l.length - (intOf i).toNat)
      case atStart => exact ⟨0, Nat.zero_le _, rfl, Below.refl _ _, rfl⟩
      case round =>
        obtain ⟨k, hk, rfl, hb, ho⟩ := hrel
        by_cases hlt : k < l.length
        · obtain ⟨x, hx⟩ : ∃ x, l[k]? = some x := ⟨_, List.getElem?_eq_getElem hlt⟩
          obtain ⟨rfl, _⟩ := HP.out (by rintro rfl; simp at hlt)
          obtain ⟨h0, h1, h2, h3⟩ := HC.out k x hx
          have hBr := hB1.trans (hb.mono hB1.size)
          have e0 := (hBr.cell (cell_lt h0)).trans h0
          have e1 := (hBr.cell (cell_lt h1)).trans h1
          have e2 := (hBr.cell (cell_lt h2)).trans h2
          have e3 := (hBr.cell (cell_lt h3)).trans h3
          have hstep := onceGo_drop l k x hx
          have HST := Lib.hid hstep
          have hfm := fieldAt_mem l k x hx
          have HFR := Lib.hid (fieldRes_mem hfm)
          have htx := HT.out x (List.mem_of_getElem? hx)
          clear hstep hx h0 h1 h2 h3
          have hBa : Below wr.heap.size wr (wr.alloc (.cells #[.string (str x.n), .int .i64 x.t.k, .int .i64 x.t.o, .bool x.ix] 53)) := (Below.refl _ _).alloc (Nat.le_refl _) _
          have qa : (wr.alloc (.cells #[.string (str x.n), .int .i64 x.t.k, .int .i64 x.t.o, .bool x.ix] 53)).heap[wr.heap.size]? = some (.cells #[.string (str x.n), .int .i64 x.t.k, .int .i64 x.t.o, .bool x.ix] 53 (0, 0)) := World.alloc_heap_new wr _
          have QA := Lib.hid qa
          clear qa
          have qr := (hb.block w.heap.size (heap_lt Q0.out)).trans Q0.out
          have QR := Lib.hid ((hBa.block w.heap.size (heap_lt qr)).trans qr)
          clear qr
          go_wp2_with fail
          obtain ⟨W2, hW2⟩ : ∃ W2, wr.alloc (.cells #[.string (str x.n), .int .i64 x.t.k, .int .i64 x.t.o, .bool x.ix] 53) = W2 := ⟨_, rfl⟩
          rw [hW2] at QA QR hBa ⊢
          clear hW2
          refine (rightField_any x _ htx).mono ?_
          rintro e w2 ⟨rfl, hb2⟩
          have hB3 := hBr.trans ((hBa.trans (hb2.mono hBa.size)).mono hBr.size)
          cases hrf : rightField x
          · have H2 := Lib.hid hrf
            clear hrf
            go_wp2_with fail
            go_ret
            exact ⟨bret (by rw [rightClass, ← ho.out, HST.out, H2.out]; simp), hB3⟩
          · have H2 := Lib.hid hrf
            clear hrf
            have q2 := (hb2.block w.heap.size (heap_lt QR.out)).trans QR.out
            have q3 := (hb2.block wr.heap.size (heap_lt QA.out)).trans QA.out
            obtain ⟨d0, d1⟩ := blk2 q2
            obtain ⟨f0, f1, f2, f3⟩ := blk4 q3
            clear q2 q3 e0 e1 e2 e3
            go_wp2_with fail
            refine (Field_any n l _ x.n w2 (HL.out.ext hB3)).mono ?_
            rintro e w3 ⟨rfl, hb3⟩
            have hB4 := hB3.trans (hb3.mono hB3.size)
            rw [HFR.out]
            obtain ⟨F, hF⟩ : ∃ F, fieldAt l x.n = F := ⟨_, rfl⟩
            rw [hF] at HST hfm ⊢
            clear hF HFR
            cases hFk : F == (k : Int)
            · have hne : (F != (k : Int)) = true := by simpa using hFk
              have H3 := Lib.hid hFk
              clear hFk
              go_wp2_with fail
              go_ret
              exact ⟨bret (by rw [rightClass, ← ho.out, HST.out, H3.out]; simp), hB4⟩
            · have hne : (F != (k : Int)) = false := by simpa using hFk
              have H3 := Lib.hid hFk
              clear hFk
              go_wp2_with fail
              go_roundw
              case rel =>
                refine ⟨k + 1, by omega, by go_num, (hb.trans ((hBa.trans (hb2.mono hBa.size)).mono hb.size)).trans (hb3.mono (by have := hB1.size; have := hb.size; have := hBa.size; have := hb2.size; omega)), ?_⟩
                show _ = _
                rw [← ho.out, HST.out, H2.out, H3.out]
                rfl
              case measure => simp [intOf]; omega
        · go_wp2_with fail
          go_ret
          exact ⟨bret (by rw [rightClass, ← ho.out, List.drop_eq_nil_of_le (by omega), H1.out]; simp [onceGo, h8]), hB1.trans (hb.mono hB1.size)⟩
  · go_enter Tryd.func22, Tryd.ntmps22
    go_wp2_with fail
    refine (HN.out _).mono ?_
    rintro e w1 ⟨rfl, rfl⟩
    cases hrn : rightName n
    all_goals
      clear hrn q0 hz
      go_wp2_with fail
      go_ret
      exact ⟨bret (by simp [rightClass, h8]), hB1⟩
end Go.Proofs.YtdlolkogifigpaaDoor
