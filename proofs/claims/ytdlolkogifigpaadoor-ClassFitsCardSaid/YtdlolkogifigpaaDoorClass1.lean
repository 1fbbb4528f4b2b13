/- Layer 4: names, fields, class.Field. -/
import Derived.Test.YtdlolkogifigpaaDoorPClass
import Derived.Test.YtdlolkogifigpaaDoorVal4
namespace Go.Proofs.YtdlolkogifigpaaDoor
open Go Go.RowKit Go.Mor
set_option maxHeartbeats 1000000

theorem RightType_any (t : Ty) (w : World) :
    Calls Tryd.prog 40 #[.agg #[.int .i64 t.k, .int .i64 t.o]] w fun e w' => e = .returned (.bool (rightType t)) ∧ Below w.heap.size w w' := by
  go_enter Tryd.func40, Tryd.ntmps40
  go_wp2
  all_goals go_ret
  all_goals refine ⟨bret ?_, by go_grown⟩
  all_goals (rw [Bool.eq_iff_iff]; simp_all [rightType] <;> omega)

theorem small_byte (b : UInt8) (w : World) :
    Calls Tryd.prog 79 #[.int .u8 b.toNat] w fun e w' => e = .returned (.bool (small b)) ∧ w = w' := by
  have := small_any (b.toNat : Int) w (by omega) (by have := b.toNat_lt; omega)
  refine this.mono ?_
  rintro e w' ⟨rfl, rfl⟩
  exact ⟨bret (by simp only [small, decide_eq_decide]; omega), rfl⟩

theorem rightName_no {s : List UInt8} (h : small (s.headD 0) = false) : rightName s = false := by unfold rightName; rw [h]; simp only [Bool.and_false, Bool.false_and]
theorem rightName_not {s : List UInt8} (h : s.all nameB = false) : rightName s = false := by unfold rightName; rw [h]; simp only [Bool.and_false]
theorem rightName_yes {s : List UInt8} (h1 : 1 ≤ s.length) (h2 : s.length ≤ 20) (h : small (s.headD 0) = true) (h3 : s.all nameB = true) : rightName s = true := by
  unfold rightName; rw [h, h3, decide_eq_true ⟨h1, h2⟩]; rfl

set_option maxRecDepth 10000 in
theorem rightName_any (s : List UInt8) (w : World) (hs : s.length ≤ 9223372036854775807) :
    Calls Tryd.prog 51 #[.string (str s)] w fun e w' => e = .returned (.bool (rightName s)) ∧ w = w' := by
  by_cases hl : 1 ≤ s.length ∧ s.length ≤ 20
  · obtain ⟨h1, h2⟩ := hl
    have hh : s[0]'(by omega) = s.headD 0 := by cases s with | nil => simp at h1 | cons a t => rfl
    have H1 := Lib.hid (small_byte (s[0]'(by omega)))
    have HH := Lib.hid hh
    clear hh
    go_enter Tryd.func51, Tryd.ntmps51
    go_wp2_with fail
    refine (H1.out _).mono ?_
    rintro e w1 ⟨rfl, rfl⟩
    cases hsm : small (s[0]'(by omega))
    · have HS := Lib.hid hsm
      clear hsm
      go_wp2_with fail
      go_ret
      exact ⟨bret (by rw [rightName_no (by rw [← HH.out]; exact HS.out)]), rfl⟩
    · have HS := Lib.hid hsm
      clear hsm
      go_wp2_with fail
      go_loop [20] (fun i => ∃ k : Nat, k ≤ s.length ∧ i = .int .i64 k ∧ Hid ((s.drop k).all nameB = s.all nameB)) (fun i => s.length - (intOf i).toNat)
      case atStart => exact ⟨0, by omega, rfl, rfl⟩
      case round =>
        obtain ⟨k, hk, rfl, hall⟩ := hrel
        by_cases hlt : k < s.length
        · have hd : (s.drop k).all nameB = (nameB s[k] && (s.drop (k + 1)).all nameB) := by rw [List.drop_eq_getElem_cons hlt]; rfl
          have HD := Lib.hid hd
          have H2 := Lib.hid (small_byte s[k])
          have hb := (s[k]).toNat_lt
          clear hd
          go_wp2_with fail
          refine (H2.out _).mono ?_
          rintro e w1 ⟨rfl, rfl⟩
          cases hsk : small s[k]
          · have HSK := Lib.hid hsk
            clear hsk
            go_wp2_with fail
            all_goals first
              | (go_ret
                 have hn : nameB s[k] = false := by rw [nameB, HSK.out]; simp_all; try omega
                 exact ⟨bret (by rw [rightName_not (by rw [← hall.out, HD.out, hn]; rfl)]), rfl⟩)
              | (have hn : nameB s[k] = true := by rw [nameB, HSK.out]; simp_all; try omega
                 exact ⟨⟨k + 1, by omega, by go_num, by show _ = _; rw [← hall.out, HD.out, hn]; rfl⟩, by simp [intOf]; omega⟩)
          · have HSK := Lib.hid hsk
            clear hsk
            go_wp2_with fail
            have hn : nameB s[k] = true := by rw [nameB, HSK.out]; rfl
            exact ⟨⟨k + 1, by omega, by go_num, by show _ = _; rw [← hall.out, HD.out, hn]; rfl⟩, by simp [intOf]; omega⟩
        · go_wp2_with fail
          go_ret
          exact ⟨bret (by rw [rightName_yes h1 h2 (by rw [← HH.out]; exact HS.out) (by rw [← hall.out, List.drop_eq_nil_of_le (by omega)]; rfl)]), rfl⟩
  · by_cases h0 : s.length < 1
    · go_enter Tryd.func51, Tryd.ntmps51
      go_wp2_with fail
      go_ret
      exact ⟨bret (by simp [rightName]; omega), rfl⟩
    · go_enter Tryd.func51, Tryd.ntmps51
      go_wp2_with fail
      go_ret
      exact ⟨bret (by simp [rightName]; omega), rfl⟩
end Go.Proofs.YtdlolkogifigpaaDoor
