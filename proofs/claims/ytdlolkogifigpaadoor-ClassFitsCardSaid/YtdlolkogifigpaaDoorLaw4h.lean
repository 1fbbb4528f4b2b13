/- Chapter 4's helpers: ValOf of every right type; ValsOf. -/
import Derived.Test.YtdlolkogifigpaaDoorLaw4g
namespace Go.Proofs.YtdlolkogifigpaaDoor
open Go Go.RowKit Go.Mor
set_option maxHeartbeats 4000000

theorem ValOf_any (t : Ty) (n many : Int) (w : World) (ht : rightType t = true) (h0 : -9223372036854775808 ≤ n) (h1 : n ≤ 9223372036854775807) (hm : many ≤ 100000) (hm0 : -1000 ≤ many) :
    Calls Tryd.prog 41 #[.agg #[.int .i64 t.k, .int .i64 t.o], .int .i64 n, .int .i64 many] w fun e w' => ValPost w (mkVal t n many) e w' := by
  obtain ⟨k, o⟩ := t
  by_cases h5 : k = 5
  · subst h5
    have ho : 1 ≤ o ∧ o ≤ 4 := by simpa [rightType] using ht
    exact ValOfL_any o n many w ho h0 h1 hm hm0
  · have hk : 1 ≤ k ∧ k ≤ 4 := by simp [rightType, h5] at ht; omega
    have hl := (right1_of k n many hk hm).2.1
    have e : mkVal ⟨k, o⟩ n many = mkVal1 k n many := by simp [mkVal, h5]
    rw [e]
    refine (ValOf1_any k o n many w hk h0 h1 (by omega) hm0).mono ?_
    rintro e' w' ⟨rfl, hb⟩
    refine ⟨⟨none, 0, [], ?_, by rw [hl]; rfl, ?_, fun y hy => by cases hy⟩, hb⟩
    · rw [hl]; rfl
    · rw [hl]; exact OwnR.nil _ _
def IR : RowT Int where
  e := 3
  t := 28
  size := 1
  bytes := 8
  zero := .int .i64 0
  cells := fun x => [.int .i64 x]
  len := fun _ => rfl
  one := by
    intro x u hu
    simp at hu
    subst hu; rfl
  pos := by decide
  few := by decide
  und := Tryd.underlying28
  info := by kernel_rfl
  zlen := rfl
def ValsPost (w : World) (l : List V) (e : Ending) (w' : World) : Prop :=
  (∃ p cap L, e = .returned (.slice p L.length cap) ∧ L.map VC.v = l ∧ OwnR VR w.heap.size w' (.slice p L.length cap) L ∧ ∀ y ∈ L, IsL (fun b => w.heap.size ≤ b ∧ some b ≠ (Value.slice p L.length cap).ownBlock) w' y.v.l y.c) ∧ Below w.heap.size w w'
theorem rawN_bound (l : List Int) (i : Nat) (hi : i ≤ 100) : -9223372036854775808 ≤ rawN l i ∧ rawN l i ≤ 9223372036854775807 := by
  unfold rawN
  split
  · omega
  · rw [IntKind.wrap_i64]; omega
theorem mkVals_take (fs : List Fld) (l : List Int) (many : Int) (k : Nat) (f : Fld) (h : fs[k]? = some f) : (mkVals fs l many).take (k + 1) = (mkVals fs l many).take k ++ [mkVal f.t (rawN l k) many] := by
  rw [List.take_add_one]
  congr 1
  simp [mkVals, List.getElem?_mapIdx, h]
theorem IsF.at {ok : Nat → Prop} {w : World} {l : List Fld} {p : Option Addr} {n cap : Nat} (h : IsF ok w l (.slice p n cap)) (hl : 0 < l.length) :
    ∃ b off, p = some ⟨b, off, none⟩ ∧ ∀ (i : Nat) (f : Fld), l[i]? = some f → w.cell? ⟨b, off + i * 4, none⟩ = some (.string (str f.n)) ∧ w.cell? ⟨b, off + i * 4 + 1, none⟩ = some (.int .i64 f.t.k)
      ∧ w.cell? ⟨b, off + i * 4 + 2, none⟩ = some (.int .i64 f.t.o) ∧ w.cell? ⟨b, off + i * 4 + 3, none⟩ = some (.bool f.ix) := by
  obtain ⟨b, off, cap', p', h1, h2, h3, h4, h5⟩ := h
  obtain ⟨rfl, _, _⟩ : p = p' ∧ _ := by simpa using h1
  exact ⟨b, off, (h4 (by rintro rfl; simp at hl)).1, h5⟩
set_option maxRecDepth 10000 in
theorem ValsOf_any (nm : List UInt8) (fs : List Fld) (c : Value) (l : List Int) (cl : Value) (many : Int) (w : World) (hfs : fs.length ≤ 8) (hft : ∀ f ∈ fs, rightField f = true) (hF : IsF (fun _ => True) w fs c) (hI : IsR IR (fun _ => True) w l cl)
    (hm : many ≤ 100000) (hm0 : -1000 ≤ many) (hlb : ∀ x ∈ l, -9223372036854775808 ≤ x ∧ x ≤ 9223372036854775807) :
    Calls Tryd.prog 14 #[.agg #[.string (str nm), c], cl, .int .i64 many] w fun e w' => ValsPost w (mkVals fs l many) e w' := by
  obtain ⟨pf, kf, rfl, hkf, hmf⟩ := hF.form
  obtain ⟨pl, kl, rfl, hkl, hml⟩ := hI.form
  unfold maxLen at hmf hml
  have HF := Lib.hid hF
  have HI := Lib.hid hI
  have HFT := Lib.hid hft
  have HLB := Lib.hid hlb
  have hB := Below.refl w.heap.size w
  clear hF hI hft hlb
  go_enter Tryd.func14, Tryd.ntmps14
  go_wp2_with fail
  have hBa : Below (w).heap.size (w) ((w).alloc (.cells #[.string (str nm), .slice pf fs.length kf] 27)) := (Below.refl _ _).alloc (Nat.le_refl _) _
  have N0 := World.alloc_heap_new (w) (.cells #[.string (str nm), .slice pf fs.length kf] 27)
  replace N0 := Lib.hid N0
  replace hB := hB.trans (hBa.mono hB.size)
  clear hBa
  obtain ⟨U1, hV⟩ : ∃ V, (w).alloc (.cells #[.string (str nm), .slice pf fs.length kf] 27) = V := ⟨_, rfl⟩
  obtain ⟨B, hV2⟩ : ∃ B, w.heap.size = B := ⟨_, rfl⟩
  rw [hV] at N0 hB ⊢
  rw [hV2] at N0 ⊢
  have le_B := Nat.le_of_eq hV2
  clear hV hV2
  have hO : Hid (OwnR VR (B + 1) U1 (.slice none 0 0) []) := OwnR.nil _ _
  go_loopw [7, 8] (fun out i wr => ∃ (k : Nat) (L : List VC) (p : Option Addr) (cap : Nat), k ≤ fs.length ∧ i = .int .i64 k ∧ out = .slice p L.length cap ∧ L.length ≤ k ∧ Hid (wr.heap[B]? = some (.cells #[.string (str nm), .slice pf fs.length kf] 27 (0, 0))) ∧ Hid (OwnR VR (B + 1) wr (.slice p L.length cap) L) ∧ Hid (L.map VC.v = (mkVals fs l many).take k) ∧ Hid (∀ y ∈ L, IsL (fun b => B + 1 ≤ b ∧ some b ≠ (Value.slice p L.length cap).ownBlock) wr y.v.l y.c) ∧ Below w.heap.size w wr) (fun _ i _ => fs.length - (intOf i).toNat)
  case atStart => exact ⟨0, [], none, 0, Nat.zero_le _, rfl, rfl, by simp, N0, hO, rfl, (fun y hy => by cases hy), hB⟩
  case round =>
    obtain ⟨k, L, p, cap, hk, rfl, rfl, hlk, P0, hO, HL, HY, hb⟩ := hrel
    obtain ⟨d0, d1⟩ := blk2 P0.out
    have hsz : B + 1 ≤ wr.heap.size := heap_lt P0.out
    by_cases hlt : k < fs.length
    · obtain ⟨f, hf⟩ : ∃ f, fs[k]? = some f := ⟨_, List.getElem?_eq_getElem hlt⟩
      obtain ⟨bf, of, rfl, hcf⟩ := IsF.at HF.out (by omega)
      obtain ⟨_, h1, h2, _⟩ := hcf k f hf
      have e1 := (hb.cell (cell_lt h1)).trans h1
      have e2 := (hb.cell (cell_lt h2)).trans h2
      have hrf := HFT.out f (List.mem_of_getElem? hf)
      have hrt : rightType f.t = true := by simp only [rightField, Bool.and_eq_true] at hrf; exact hrf.1.2
      have hrb := rawN_bound l k (by omega)
      have HC := Lib.hid (ValOf_any f.t (rawN l k) many wr hrt hrb.1 hrb.2 hm hm0)
      obtain ⟨x, hx⟩ : ∃ x, mkVal f.t (rawN l k) many = x := ⟨_, rfl⟩
      have HT := Lib.hid (mkVals_take fs l many k f hf)
      rw [hx] at HC HT
      have hlen : L.length + 1 ≤ 1000000 := by omega
      clear hx h1 h2 hcf hf hrf hrt
      by_cases hl0 : l = []
      · have hN : rawN l k = k := if_pos hl0
        have hl2 : decide (0 < l.length) = false := by rw [hl0]; rfl
        rw [hN] at HC hrb
        clear hN hl0
        go_wp2_with fail
        refine HC.out.mono ?_
        rintro e W1 ⟨⟨p1, cap1, LL, rfl, hLL, hO1, hy1⟩, hb1⟩
        have hal : Below W1.heap.size W1 (W1.alloc (.cells #[.int .i64 x.k, .int .i64 x.n, .string (str x.s), .slice p1 x.l.length cap1] 31)) := (Below.refl _ _).alloc (Nat.le_refl _) _
        have hb2 := hb1.trans (hal.mono hb1.size)
        have R0 := Lib.hid ((hb2.block _ (heap_lt P0.out)).trans P0.out)
        have HO1 := Lib.hid hO1
        have HLL := Lib.hid hLL
        have HY1 := Lib.hid hy1
        clear hO1 hLL hy1 d0 d1 e1 e2
        go_wp2_with (at_builtin; refine wpList_appR1 (R := VR) rfl _ _ rfl (hO.out.ext hb2) (isR_one ⟨x, p1, cap1⟩ (World.alloc_heap_new W1 _) rfl) (by simp) rfl rfl hlen (Nat.le_trans hsz hb2.size) ?_; intro L2 g2 k2 W2 hL2 hO2 hg2 hwh)
        refine ⟨⟨k + 1, L2, some ⟨g2, 0, none⟩, k2, by omega, by go_num, rfl, by rw [hL2.out]; simp; omega, (hO.out.ext hb2).stay hg2 R0.out (by omega), hO2, ?_, ?_, ?_⟩, by simp [intOf]; omega⟩
        · show _ = _
          rw [hL2.out, List.map_append, HL.out, HT.out]; rfl
        · intro y hy
          have hlt2 : ∀ j, (Value.slice p L.length cap).ownBlock = some j → j < wr.heap.size := fun j hj => hO.out.lt j hj
          rw [hL2.out] at hy
          rcases List.mem_append.1 hy with hy | hy
          · refine ((HY.out y hy).under.keep (w' := W2) (fun j hj => ?_)).weaken (fun j hj => ⟨hj.1.1, ?_⟩)
            · rw [hg2.block j (by have := hb2.size; omega) hj.1.2, hb2.block j hj.2]
            · intro h
              have h' : j = g2 := by injection h
              rcases hwh.out with hw | hw
              · exact hj.1.2 (by rw [hw, h'])
              · have := hb2.size; omega
          · obtain rfl := List.mem_singleton.1 hy
            have hsub : IsL (fun b => wr.heap.size ≤ b ∧ (Value.slice p1 x.l.length cap1).ownBlock = some b) W1 x.l (.slice p1 x.l.length cap1) := by
              have := HO1.out.isR.toL (fun y hy => isL_empty (HY1.out y hy).1 (by rw [(HY1.out y hy).2]; exact Nat.zero_le _))
              rwa [HLL.out] at this
            refine (hsub.under.keep (w' := W2) (fun j hj => ?_)).weaken (fun j hj => ⟨by omega, ?_⟩)
            · rw [hg2.block j (by have := hal.size; omega) (fun h => by have := hlt2 j h.symm; omega), hal.block j hj.2]
            · intro h
              have h' : j = g2 := by injection h
              rcases hwh.out with hw | hw
              · have := hlt2 g2 hw; omega
              · have := hal.size; omega
        · exact (hb.trans (hb2.mono hb.size)).grown hg2 (Nat.le_trans hb.size hb2.size) (fun j hj => by have := hO.out.below j hj; omega)
      · have hl1 : 0 < l.length := List.length_pos_iff.2 hl0
        obtain ⟨bl, ol, rfl, _, _, hci⟩ := IsR.at HI.out hl1
        obtain ⟨j, hj⟩ : ∃ j, k % l.length = j := ⟨_, rfl⟩
        have hjl : j < l.length := by rw [← hj]; exact Nat.mod_lt _ hl1
        obtain ⟨z, hz⟩ : ∃ z, l[j]? = some z := ⟨_, List.getElem?_eq_getElem hjl⟩
        have hzc : wr.cell? ⟨bl, ol + j, none⟩ = some (.int .i64 z) := by
          have := hci j z hz 0 _ rfl
          have := (hb.cell (cell_lt this)).trans this
          simpa [IR] using this
        have hjm : (k : Int) % (l.length : Int) = (j : Int) := by rw [← hj]; simp
        have hzb := HLB.out z (List.mem_of_getElem? hz)
        obtain ⟨N, hN⟩ : ∃ N, rawN l k = N := ⟨_, rfl⟩
        have hN' : IntKind.i64.wrap (z + k) = N := by rw [← hN, rawN, if_neg hl0, hj, List.getD_eq_getElem?_getD, hz]; rfl
        have hN2 : wrap64 (z + k) = N := by rw [← hN']; exact (IntWalk.i64_left _).symm
        have hl2 : decide (0 < l.length) = true := by simpa using hl1
        rw [hN] at HC hrb
        clear hN hci hj hz
        go_wp2_with fail
        refine HC.out.mono ?_
        rintro e W1 ⟨⟨p1, cap1, LL, rfl, hLL, hO1, hy1⟩, hb1⟩
        have hal : Below W1.heap.size W1 (W1.alloc (.cells #[.int .i64 x.k, .int .i64 x.n, .string (str x.s), .slice p1 x.l.length cap1] 31)) := (Below.refl _ _).alloc (Nat.le_refl _) _
        have hb2 := hb1.trans (hal.mono hb1.size)
        have R0 := Lib.hid ((hb2.block _ (heap_lt P0.out)).trans P0.out)
        have HO1 := Lib.hid hO1
        have HLL := Lib.hid hLL
        have HY1 := Lib.hid hy1
        clear hO1 hLL hy1 d0 d1 e1 e2
        go_wp2_with (at_builtin; refine wpList_appR1 (R := VR) rfl _ _ rfl (hO.out.ext hb2) (isR_one ⟨x, p1, cap1⟩ (World.alloc_heap_new W1 _) rfl) (by simp) rfl rfl hlen (Nat.le_trans hsz hb2.size) ?_; intro L2 g2 k2 W2 hL2 hO2 hg2 hwh)
        refine ⟨⟨k + 1, L2, some ⟨g2, 0, none⟩, k2, by omega, by go_num, rfl, by rw [hL2.out]; simp; omega, (hO.out.ext hb2).stay hg2 R0.out (by omega), hO2, ?_, ?_, ?_⟩, by simp [intOf]; omega⟩
        · show _ = _
          rw [hL2.out, List.map_append, HL.out, HT.out]; rfl
        · intro y hy
          have hlt2 : ∀ j, (Value.slice p L.length cap).ownBlock = some j → j < wr.heap.size := fun j hj => hO.out.lt j hj
          rw [hL2.out] at hy
          rcases List.mem_append.1 hy with hy | hy
          · refine ((HY.out y hy).under.keep (w' := W2) (fun j hj => ?_)).weaken (fun j hj => ⟨hj.1.1, ?_⟩)
            · rw [hg2.block j (by have := hb2.size; omega) hj.1.2, hb2.block j hj.2]
            · intro h
              have h' : j = g2 := by injection h
              rcases hwh.out with hw | hw
              · exact hj.1.2 (by rw [hw, h'])
              · have := hb2.size; omega
          · obtain rfl := List.mem_singleton.1 hy
            have hsub : IsL (fun b => wr.heap.size ≤ b ∧ (Value.slice p1 x.l.length cap1).ownBlock = some b) W1 x.l (.slice p1 x.l.length cap1) := by
              have := HO1.out.isR.toL (fun y hy => isL_empty (HY1.out y hy).1 (by rw [(HY1.out y hy).2]; exact Nat.zero_le _))
              rwa [HLL.out] at this
            refine (hsub.under.keep (w' := W2) (fun j hj => ?_)).weaken (fun j hj => ⟨by omega, ?_⟩)
            · rw [hg2.block j (by have := hal.size; omega) (fun h => by have := hlt2 j h.symm; omega), hal.block j hj.2]
            · intro h
              have h' : j = g2 := by injection h
              rcases hwh.out with hw | hw
              · have := hlt2 g2 hw; omega
              · have := hal.size; omega
        · exact (hb.trans (hb2.mono hb.size)).grown hg2 (Nat.le_trans hb.size hb2.size) (fun j hj => by have := hO.out.below j hj; omega)
    · obtain rfl : k = fs.length := by omega
      go_wp2_with fail
      go_ret
      refine ⟨⟨p, cap, L, rfl, ?_, hO.out.lower (by omega), fun y hy => ((HY.out y hy).weaken fun b h => ⟨by omega, h.2⟩)⟩, hb⟩
      rw [HL.out, List.take_of_length_le (by simp [mkVals])]
end Go.Proofs.YtdlolkogifigpaaDoor
