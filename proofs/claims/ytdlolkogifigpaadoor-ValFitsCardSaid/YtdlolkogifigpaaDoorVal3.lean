/- Layer 3: which texts and values may be. -/
import Derived.Lib.MapLaws
import Derived.Test.YtdlolkogifigpaaDoorShelf
import Derived.Test.YtdlolkogifigpaaDoorWire3
import Derived.Test.YtdlolkogifigpaaDoorVal2
set_option linter.unusedSimpArgs false
set_option linter.unusedVariables false
namespace Go.Proofs.YtdlolkogifigpaaDoor
open Go Go.RowKit Go.Mor
set_option maxHeartbeats 1000000

theorem iter_below (w : World) (s : ByteArray) (p : Nat) : Below w.heap.size w (w.iter s p) := (Below.refl _ _).alloc (Nat.le_refl _) _

set_option maxRecDepth 10000 in
theorem rightText_any (s : List UInt8) (a0 a1 : Addr) (w : World) (hs : s.length ≤ 9223372036854775807) (hG : Glob w a0 a1) :
    Calls Tryd.prog 84 #[.string (str s)] w fun e w' => e = .returned (.bool (rightText s)) ∧ Below w.heap.size w w' := by
  by_cases hl : s.length ≤ 60
  · have HV := Lib.hid (Tryd.utf8_ValidString (str s) w (by simp; omega) hG.tabs)
    have hnl : ¬ (60 < s.length) := by omega
    clear hG
    go_enter Tryd.func84, Tryd.ntmps84
    go_wp2_with fail
    refine HV.out.mono ?_
    rintro e w1 ⟨rfl, hb1⟩
    rw [str_toList]
    cases hv : Lib.validD s
    · have HVv := Lib.hid hv
      clear hv
      go_wp2_with fail
      go_ret
      exact ⟨bret (by simp [rightText, HVv.out]), hb1⟩
    · have HVv := Lib.hid hv
      clear hv
      go_wp2_with fail
      go_loopw [4] (fun _ wr => ∃ pos : Nat, pos ≤ s.length ∧ wr = w1.iter (str s) pos ∧ Hid (plainD (s.drop pos) = plainD s)) (fun _ wr => s.length - wr.iterPos w1.heap.size)
      case atStart => exact ⟨0, by omega, rfl, rfl⟩
      case round =>
        obtain ⟨pos, hpos, rfl, hpl⟩ := hrel
        by_cases hlt : pos < s.length
        · have hnx := run_next_any (P := Tryd.prog) w1 (str s) pos
          have hdec : Utf8.decode (str s) pos = Lib.decodeL (s.drop pos) := by rw [← Lib.decodeL_drop, str_toList]
          rw [hdec] at hnx
          have hstep := plainD_step (s.drop pos) (by intro h; have := congrArg List.length h; simp at this; omega)
          have hwd := Lib.decodeL_width (s.drop pos)
          have hle := Lib.decodeL_le (s.drop pos) (by intro h; have := congrArg List.length h; simp at this; omega)
          simp only [List.length_drop] at hle
          rw [List.drop_drop] at hstep
          obtain ⟨r, hr⟩ : ∃ r, (Lib.decodeL (s.drop pos)).1 = r := ⟨_, rfl⟩
          obtain ⟨k, hk⟩ : ∃ k, (Lib.decodeL (s.drop pos)).2 = k := ⟨_, rfl⟩
          rw [hr, hk] at hstep
          rw [hk] at hwd hle
          have hnx' : ∀ ty, (Instr.next (.pointer (some ⟨w1.heap.size, 0, none⟩)) true ty).run Tryd.prog (w1.iter (str s) pos) = .ok (.tuple #[.bool true, .int .i64 pos, .int .i32 r]) (w1.iter (str s) (pos + k)) := fun ty => by
            have := hnx ty (by simp; omega)
            rw [hr, hk] at this
            exact this
          have HST := Lib.hid hstep
          clear hnx hdec hstep hr hk
          have HP := Lib.hid (fun W => plain_any (r : Int) W)
          go_wp2_with fail
          refine (HP.out _).mono ?_
          rintro e w2 ⟨rfl, rfl⟩
          cases hp : plainR r
          · have hd : decide (32 ≤ (r : Int) ∧ (r : Int) ≠ 127) = false := by
              simp [plainR] at hp; simp; omega
            have HPp := Lib.hid hp
            clear hp
            rw [hd]
            clear hd
            go_wp2_with fail
            go_ret
            refine ⟨bret ?_, hb1.trans ((iter_below _ _ _).mono hb1.size)⟩
            rw [rightText, ← hpl.out, HST.out, HPp.out]
            simp
          · have hd : decide (32 ≤ (r : Int) ∧ (r : Int) ≠ 127) = true := by
              simp [plainR] at hp; simp; omega
            have HPp := Lib.hid hp
            clear hp
            rw [hd]
            clear hd
            go_wp2_with fail
            go_roundw
            case rel =>
              refine ⟨pos + k, by omega, rfl, ?_⟩
              show _ = _
              rw [← hpl.out, HST.out, HPp.out]
              simp
            case measure => simp; omega
        · have hnx := run_next_end (P := Tryd.prog) w1 (str s) pos
          have hnx' : ∀ ty, (Instr.next (.pointer (some ⟨w1.heap.size, 0, none⟩)) true ty).run Tryd.prog (w1.iter (str s) pos) = .ok (.tuple #[.bool false]) (w1.iter (str s) pos) := fun ty => hnx ty (by simp; omega)
          clear hnx
          go_wp2_with fail
          go_ret
          refine ⟨bret ?_, hb1.trans ((iter_below _ _ _).mono hb1.size)⟩
          rw [rightText, ← hpl.out, HVv.out, List.drop_eq_nil_of_le (by omega)]
          simp [plainD, plainGo]
          omega
  · have hnl : 60 < s.length := by omega
    clear hG
    go_enter Tryd.func84, Tryd.ntmps84
    go_wp2_with fail
    go_ret
    exact ⟨bret (by simp [rightText]; omega), Below.refl _ _⟩
end Go.Proofs.YtdlolkogifigpaaDoor
