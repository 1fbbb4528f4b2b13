/- Chapter 4's helpers: ClassOf. -/
import Derived.Deep.RegionHeld3
import Derived.Test.YtdlolkogifigpaaDoorLaw4a
import Derived.Test.YtdlolkogifigpaaDoorClass8
namespace Go.Proofs.YtdlolkogifigpaaDoor
open Go Go.RowKit Go.Mor
set_option maxHeartbeats 1000000

def rawOk (r : RawF) : Prop := -9223372036854775808 ≤ r.n ∧ r.n ≤ 9223372036854775807 ∧ -9223372036854775808 ≤ r.k ∧ r.k ≤ 9223372036854775807 ∧ -9223372036854775808 ≤ r.o ∧ r.o ≤ 9223372036854775807
/-- The slice value c reads as the raw fields l. -/
def IsRaw (w : World) (l : List RawF) (c : Value) : Prop :=
  ∃ (b off cap : Nat) (p : Option Addr), c = .slice p l.length cap ∧ l.length ≤ cap ∧ cap ≤ maxLen ∧ (l ≠ [] → p = some ⟨b, off, none⟩) ∧
    ∀ (i : Nat) (f : RawF), l[i]? = some f → rawOk f ∧ w.cell? ⟨b, off + i * 4, none⟩ = some (.int .i64 f.n) ∧ w.cell? ⟨b, off + i * 4 + 1, none⟩ = some (.int .i64 f.k)
      ∧ w.cell? ⟨b, off + i * 4 + 2, none⟩ = some (.int .i64 f.o) ∧ w.cell? ⟨b, off + i * 4 + 3, none⟩ = some (.bool f.ix)

def ClsPost (w : World) (o : Cls) (e : Ending) (w' : World) : Prop :=
  (∃ v, e = .returned (.agg #[.string (str o.n), v]) ∧ OwnF w.heap.size w' v o.fs) ∧ Below w.heap.size w w'

theorem alloc4 (w : World) (o0 o1 o2 o3 : Obj) :
    ((((w.alloc o0).alloc o1).alloc o2).alloc o3).heap[w.heap.size]? = some o0 ∧ ((((w.alloc o0).alloc o1).alloc o2).alloc o3).heap[w.heap.size + 1]? = some o1
    ∧ ((((w.alloc o0).alloc o1).alloc o2).alloc o3).heap[w.heap.size + 1 + 1]? = some o2 ∧ ((((w.alloc o0).alloc o1).alloc o2).alloc o3).heap[w.heap.size + 1 + 1 + 1]? = some o3
    ∧ Below w.heap.size w ((((w.alloc o0).alloc o1).alloc o2).alloc o3) ∧ ((((w.alloc o0).alloc o1).alloc o2).alloc o3).heap.size = w.heap.size + 4 := by
  refine ⟨?_, ?_, ?_, ?_, (((((Below.refl _ _).alloc (Nat.le_refl _) _).alloc (by simp) _).alloc (by simp <;> omega) _).alloc (by simp <;> omega) _), by simp⟩
  · rw [Below.heap_alloc _ _ _ (by simp <;> omega), Below.heap_alloc _ _ _ (by simp <;> omega), Below.heap_alloc _ _ _ (by simp)]
    exact World.alloc_heap_new w _
  · rw [Below.heap_alloc _ _ _ (by simp <;> omega), Below.heap_alloc _ _ _ (by simp)]
    have := World.alloc_heap_new (w.alloc o0) o1
    rwa [World.size_alloc] at this
  · rw [Below.heap_alloc _ _ _ (by simp)]
    have := World.alloc_heap_new ((w.alloc o0).alloc o1) o2
    rwa [World.size_alloc, World.size_alloc] at this
  · have := World.alloc_heap_new (((w.alloc o0).alloc o1).alloc o2) o3
    rwa [World.size_alloc, World.size_alloc, World.size_alloc] at this

abbrev namesF : Array Value := #[.string ⟨#[97]⟩, .string ⟨#[98, 50]⟩, .string ⟨#[110, 97, 109, 101]⟩, .string ⟨#[110, 101, 120, 116, 95, 111, 110, 101]⟩, .string ⟨#[107, 105, 100, 115]⟩, .string ⟨#[120]⟩]
abbrev namesC : Array Value := #[.string ⟨#[110, 111, 100, 101]⟩, .string ⟨#[105, 116, 101, 109]⟩, .string ⟨#[117, 115, 101, 114]⟩, .string ⟨#[112, 97, 103, 101, 95, 49]⟩, .string ⟨#[108, 101, 97, 102]⟩, .string ⟨#[113]⟩]
theorem namesF_at {j : Nat} (h : j < 6) : namesF[j]? = some (.string (str (nmF j))) := by
  have : j = 0 ∨ j = 1 ∨ j = 2 ∨ j = 3 ∨ j = 4 ∨ j = 5 := by omega
  rcases this with rfl | rfl | rfl | rfl | rfl | rfl <;> rfl
theorem namesC_at {j : Nat} (h : j < 6) : namesC[j]? = some (.string (str (nmC j))) := by
  have : j = 0 ∨ j = 1 ∨ j = 2 ∨ j = 3 ∨ j = 4 ∨ j = 5 := by omega
  rcases this with rfl | rfl | rfl | rfl | rfl | rfl <;> rfl
theorem pick_nat (c : Int) (n : Nat) (hn : 0 < n) : ∃ j : Nat, j < n ∧ Hid (pick c n = j) := by
  have := pick_bound c n (by omega)
  exact ⟨(pick c n).toNat, by omega, by show _ = _; omega⟩

theorem ownF_new {base : Nat} {w : World} {v : Value} {l : List Fld} {E : Nat} (h : OwnF base w v l) (hE : w.heap.size = E) : some E ≠ v.ownBlock := by
  rcases h.2 with ⟨rfl, _⟩ | ⟨g, cap, cur, rfl, hg, hc, _⟩
  · intro k; cases k
  · intro k
    have hk : E = g := by injection k
    have := heap_lt hc
    omega
theorem take_fold (l : List RawF) (k : Nat) (r : RawF) (h : l[k]? = some r) : (l.take (k + 1)).foldl addF [] = addF ((l.take k).foldl addF []) r := by
  obtain ⟨hk, rfl⟩ := List.getElem?_eq_some_iff.1 h
  rw [List.take_succ_eq_append_getElem hk, List.foldl_append]
  rfl
/-- The frame and the world at a piece's end. -/
def AtEnd (A : Act) (U : World) : Exit → Act → World → Prop
  | .normal, a, w => a = A ∧ w = U
  | _, _, _ => False
theorem wp_end_cut {P : Program} {c : Code} {Q : Exit → Act → World → Prop} {a A : Act} {w U : World} (hreg : c.wp P (AtEnd A U) a w) (h : Q .normal A U) : c.wp P Q a w := by
  refine Code.wp_mono (fun e a' w' he => ?_) hreg
  cases e <;> first | exact he.elim | (obtain ⟨rfl, rfl⟩ := he; exact h)
theorem OwnF.lower {base base' : Nat} {w : World} {v : Value} {l : List Fld} (h : OwnF base w v l) (hb : base' ≤ base) : OwnF base' w v l := by
  refine ⟨h.1, ?_⟩
  rcases h.2 with h | ⟨g, cap, cur, rfl, h2, h3⟩
  · exact .inl h
  · exact .inr ⟨g, cap, cur, rfl, by omega, h3⟩
theorem keepSet {U : World} {B : Nat} {o : Obj} (h : U.heap[B]? = some o) (E i : Nat) (v : Value) (hne : B ≠ E) : (U.setCell ⟨E, i, none⟩ v).heap[B]? = some o := (heap_setCell_other _ _ _ _ hne).trans h

set_option maxRecDepth 10000 in
set_option maxHeartbeats 8000000 in
theorem ClassOf_any (x : Raw) (c : Value) (w : World) (h0 : -9223372036854775808 ≤ x.n) (h1 : x.n ≤ 9223372036854775807) (hL : IsRaw w x.fs c) :
    Calls Tryd.prog 13 #[.agg #[.int .i64 x.n, c]] w fun e w' => ClsPost w (classOf x) e w' := by
  obtain ⟨b, off, cap, p, rfl, hcap, hmax, hp, hc⟩ := hL
  unfold maxLen at hmax
  obtain ⟨j, hj6, HJ⟩ := pick_nat x.n 6 (by omega)
  have HPK := Lib.hid (fun W => pick_any x.n 6 W h0 h1 (by omega) (by omega))
  obtain ⟨q0, q1, q2, q3, hB0, hsz⟩ := alloc4 w (.cells #[.int .i64 x.n, .slice p x.fs.length cap] 24) (.cells #[.string ⟨#[]⟩, .slice none 0 0] 27) (.cells namesF 9) (.cells namesC 9)
  have Q0 := Lib.hid q0; have Q1 := Lib.hid q1; have Q2 := Lib.hid q2; have Q3 := Lib.hid q3
  have HP := Lib.hid hp
  have HC := Lib.hid hc
  clear q0 q1 q2 q3 hp hc
  go_enter Tryd.func13, Tryd.ntmps13
  go_wp2_with fail
  refine (HPK.out _).mono ?_
  rintro e w1 ⟨rfl, hw1⟩
  rw [← hw1] at Q0 Q1 Q2 Q3 hB0 hsz
  clear hw1
  have hJ : pick x.n 6 = j := HJ.out
  rw [hJ]
  clear hJ
  have e0 := (blk_cells' Q3.out j).trans (namesC_at hj6)
  have hBa : Below w1.heap.size w1 (w1.alloc (.cells #[.string (str (nmC j)), .slice none 0 0] 27)) := (Below.refl _ _).alloc (Nat.le_refl _) _
  have Q4 := Lib.hid (World.alloc_heap_new w1 (.cells #[.string (str (nmC j)), .slice none 0 0] 27))
  have P0 := Lib.hid ((hBa.block _ (heap_lt Q0.out)).trans Q0.out)
  have P1 := Lib.hid ((hBa.block _ (heap_lt Q1.out)).trans Q1.out)
  have P2 := Lib.hid ((hBa.block _ (heap_lt Q2.out)).trans Q2.out)
  rw [hsz] at Q4
  clear Q0 Q1 Q2 Q3
  have HSZ := Lib.hid hsz
  clear hsz
  go_wp2_with fail
  have hsz := HSZ.out
  rw [hsz]
  obtain ⟨NM, hNM⟩ : ∃ NM, nmC j = NM := ⟨_, rfl⟩
  obtain ⟨W, hW⟩ : ∃ W, w1.alloc (.cells #[.string (str (nmC j)), .slice none 0 0] 27) = W := ⟨_, rfl⟩
  rw [hW] at P0 P1 P2 Q4 hBa ⊢
  rw [hNM] at Q4 ⊢
  have hB1 := hB0.trans (hBa.mono hB0.size)
  have HNM := Lib.hid hNM
  clear hW e0 hNM hBa hB0
  have hsW : w.heap.size + 5 ≤ W.heap.size := by have := heap_lt Q4.out; omega
  have hO : Hid (OwnF (w.heap.size + 5) W (.slice none 0 0) []) := OwnF.nil _ _
  go_loopw [5] (fun i wr => ∃ (k : Nat) (fs : List Fld) (pL : Option Addr) (cL : Nat), k ≤ x.fs.length ∧ k ≤ 6 ∧ i = .int .i64 k ∧ Hid (wr.heap[w.heap.size]? = some (.cells #[.int .i64 x.n, .slice p x.fs.length cap] 24 (0, 0))) ∧ Hid (wr.heap[w.heap.size + 1]? = some (.cells #[.string ⟨#[]⟩, .slice none 0 0] 27 (0, 0))) ∧ Hid (wr.heap[w.heap.size + 1 + 1]? = some (.cells namesF 9 (0, 0))) ∧ Hid (wr.heap[w.heap.size + 4]? = some (.cells #[.string (str NM), .slice pL fs.length cL] 27 (0, 0))) ∧ Hid (OwnF (w.heap.size + 5) wr (.slice pL fs.length cL) fs) ∧ Below w.heap.size w wr ∧ Hid ((x.fs.take k).foldl addF [] = fs) ∧ fs.length ≤ k) (fun i _ => 6 - (intOf i).toNat)
  case atStart => exact ⟨0, [], none, 0, Nat.zero_le _, Nat.zero_le _, rfl, P0, P1, P2, Q4, hO, hB1, rfl, by simp⟩
  case round =>
    obtain ⟨k, fs, pL, cL, hk, hk6, rfl, P0, P1, P2, P4, hO, hb, hfold, hfl⟩ := hrel
    have hszr : w.heap.size + 5 ≤ wr.heap.size := by have := heap_lt P4.out; omega
    obtain ⟨d0, d1⟩ := blk2 P0.out
    by_cases hlt : k < x.fs.length
    · by_cases hlt6 : k < 6
      · obtain ⟨r, hr⟩ : ∃ r, x.fs[k]? = some r := ⟨_, List.getElem?_eq_getElem hlt⟩
        obtain rfl := HP.out (by intro h; rw [h] at hlt; simp at hlt)
        obtain ⟨hok, h0, h1, h2, h3⟩ := HC.out k r hr
        have e0 := (hb.cell (cell_lt h0)).trans h0
        have e1 := (hb.cell (cell_lt h1)).trans h1
        have e2 := (hb.cell (cell_lt h2)).trans h2
        have e3 := (hb.cell (cell_lt h3)).trans h3
        have HRR := Lib.hid hr
        clear h0 h1 h2 h3 hr
        obtain ⟨b0, b1, b2, b3, b4, b5⟩ := hok
        have hBa : Below wr.heap.size wr (wr.alloc (.cells #[.int .i64 r.n, .int .i64 r.k, .int .i64 r.o, .bool r.ix] 83)) := (Below.refl _ _).alloc (Nat.le_refl _) _
        have QR := Lib.hid (World.alloc_heap_new wr (.cells #[.int .i64 r.n, .int .i64 r.k, .int .i64 r.o, .bool r.ix] 83))
        have R1 := Lib.hid ((hBa.block _ (heap_lt P1.out)).trans P1.out)
        have R2 := Lib.hid ((hBa.block _ (heap_lt P2.out)).trans P2.out)
        have R4 := Lib.hid ((hBa.block _ (heap_lt P4.out)).trans P4.out)
        have R0 := Lib.hid ((hBa.block _ (heap_lt P0.out)).trans P0.out)
        have hO1 := Lib.hid (hO.out.ext hBa)
        have hb1 := hb.trans (hBa.mono hb.size)
        obtain ⟨j1, hj1, HJ1⟩ := pick_nat r.n 6 (by omega)
        obtain ⟨j2, hj2, HJ2⟩ := pick_nat r.k 5 (by omega)
        obtain ⟨j3, hj3, HJ3⟩ := pick_nat r.o 4 (by omega)
        have HP1 : Hid (∀ W, Calls Tryd.prog 15 #[.int .i64 r.n, .int .i64 6] W fun e w' => e = .returned (.int .i64 j1) ∧ w' = W) := fun W => by
          have := pick_any r.n 6 W b0 b1 (by omega) (by omega)
          rwa [show pick r.n 6 = j1 from HJ1] at this
        have HP2 : Hid (∀ W, Calls Tryd.prog 15 #[.int .i64 r.k, .int .i64 5] W fun e w' => e = .returned (.int .i64 j2) ∧ w' = W) := fun W => by
          have := pick_any r.k 5 W b2 b3 (by omega) (by omega)
          rwa [show pick r.k 5 = j2 from HJ2] at this
        have HP3 : Hid (∀ W, Calls Tryd.prog 15 #[.int .i64 r.o, .int .i64 4] W fun e w' => e = .returned (.int .i64 j3) ∧ W = w') := fun W => by
          have := pick_any r.o 4 W b4 b5 (by omega) (by omega)
          rw [show pick r.o 4 = j3 from HJ3] at this
          exact this.mono (fun e w' h => ⟨h.1, h.2.symm⟩)
        clear P0 P1 P2 P4 hO
        go_wp2_with fail
        obtain ⟨V, hV⟩ : ∃ V, wr.alloc (.cells #[.int .i64 r.n, .int .i64 r.k, .int .i64 r.o, .bool r.ix] 83) = V := ⟨_, rfl⟩
        obtain ⟨D, hD⟩ : ∃ D, wr.heap.size = D := ⟨_, rfl⟩
        rw [hD] at QR hszr hBa
        rw [hV] at QR R0 R1 R2 R4 hO1 hb1 hBa ⊢
        rw [hD]
        clear hV hD e0 e1 e2 e3 d0 d1
        have n0 := (blk_cells' R2.out j1).trans (namesF_at hj1)
        obtain ⟨f0, f1, f2, f3⟩ := blk4 QR.out
        have hw1 : IntKind.i64.wrap (1 + (j2 : Int)) = 1 + j2 := IntWalk.i64_in _ (by omega)
        have hi0 : (0 : Int) ≤ (j1 : Int) := Int.natCast_nonneg _
        have hi1 : (j1 : Int) < 6 := by omega
        apply wp_end_cut
        case hreg =>
          go_region_held3 (fun w' => w'.cell? ⟨D, 0, none⟩ = some (.int .i64 r.n) ∧ w'.cell? ⟨D, 1, none⟩ = some (.int .i64 r.k) ∧ w'.cell? ⟨w.heap.size + 1 + 1, j1, none⟩ = some (.string (str (nmF j1)))) (go_keep)
            (first
              | (go_at_call_of 15 (Value.int IntKind.i64 r.n); refine (HP1.out _).mono ?_; rintro e w' ⟨rfl, rfl⟩)
              | (go_at_call_of 15 (Value.int IntKind.i64 r.k); refine (HP2.out _).mono ?_; rintro e w' ⟨rfl, rfl⟩))
          all_goals exact ⟨rfl, rfl⟩
        case h =>
          clear n0 f0 f1 f2 f3 hw1 hi0 hi1
          have hBc : Below V.heap.size V (V.alloc (.cells #[.string (str (nmF j1)), .int .i64 (1 + j2), .int .i64 0, .bool false] 53)).drew := ((Below.refl _ _).alloc (Nat.le_refl _) _).drew
          have QE : Hid ((V.alloc (.cells #[.string (str (nmF j1)), .int .i64 (1 + j2), .int .i64 0, .bool false] 53)).drew.heap[V.heap.size]? = some (.cells #[.string (str (nmF j1)), .int .i64 (1 + j2), .int .i64 0, .bool false] 53 (0, 0))) := World.alloc_heap_new V _
          obtain ⟨U, hU⟩ : ∃ U, (V.alloc (.cells #[.string (str (nmF j1)), .int .i64 (1 + j2), .int .i64 0, .bool false] 53)).drew = U := ⟨_, rfl⟩
          obtain ⟨E, hE⟩ : ∃ E, V.heap.size = E := ⟨_, rfl⟩
          rw [hU] at QE hBc ⊢
          rw [hE] at QE ⊢
          have hsE : D < E := by rw [← hE]; exact heap_lt QR.out
          clear hU
          have S0 := Lib.hid ((hBc.block _ (heap_lt R0.out)).trans R0.out)
          have S1 := Lib.hid ((hBc.block _ (heap_lt R1.out)).trans R1.out)
          have S2 := Lib.hid ((hBc.block _ (heap_lt R2.out)).trans R2.out)
          have S4 := Lib.hid ((hBc.block _ (heap_lt R4.out)).trans R4.out)
          have SR := Lib.hid ((hBc.block _ (heap_lt QR.out)).trans QR.out)
          have hO2 := Lib.hid (hO1.out.ext hBc)
          have hO2n : Hid (some E ≠ (Value.slice pL fs.length cL).ownBlock) := ownF_new hO1.out hE
          have hb2 := hb1.trans (hBc.mono hb1.size)
          clear hE hBc hBa R0 R1 R2 R4 QR hO1 hb1
          obtain ⟨rr, hrr⟩ : ∃ rr, rr = r := ⟨_, rfl⟩
          have HX : Hid (x.fs[k]? = some rr) := by show _ = _; rw [hrr]; exact HRR.out
          have HL := Lib.hid hrr
          clear hrr HRR
          obtain ⟨rn, rk, ro, rix⟩ := r
          dsimp only at *
          obtain ⟨s0, s1, s2, s3⟩ := blk4 SR.out
          obtain ⟨m0, m1⟩ := blk2 S4.out
          have hDs : w.heap.size + 5 ≤ D := hszr
          have HNE := Lib.hid (hO2n.out)
          have c0 := blk_cells' QE.out 0
          have k0 := blk_frozen QE.out 0
          have c1 := blk_cells' QE.out 1
          have k1 := blk_frozen QE.out 1
          have c2 := blk_cells' QE.out 2
          have k2 := blk_frozen QE.out 2
          have c3 := blk_cells' QE.out 3
          have k3 := blk_frozen QE.out 3
          simp only [List.getElem?_toArray, List.getElem?_cons_zero, List.getElem?_cons_succ] at c0 c1 c2 c3
          by_cases hj4 : j2 = 4
          · have hk5 : ((1 + (j2 : Int)) == 5) = true := by simp; omega
            have hk3 : decide (1 + (j2 : Int) ≤ 3) = false := by simp; omega
            have hj4' : 4 ≤ j2 := by omega
            have HF : Hid (fieldOf rr = ⟨nmF j1, ⟨1 + j2, 1 + j3⟩, false⟩) := by
              show _ = _
              have q1 : pick rn 6 = j1 := HJ1
              have q2 : pick rk 5 = j2 := HJ2
              have q3 : pick ro 4 = j3 := HJ3
              rw [HL.out]
              simp only [fieldOf, q1, q2, q3, hk3, Bool.and_false]
              rw [if_pos (by omega)]
            clear hj4
            cases rix
            all_goals
              go_wp2_with fail
              refine (HP3.out _).mono ?_
              rintro e w9 ⟨rfl, rfl⟩
              go_wp2_with fail
              have T0 := Lib.hid (keepSet (keepSet S0.out E 2 (.int .i64 (1 + j3)) (by omega)) E 3 (.bool false) (by omega))
              have T1 := Lib.hid (keepSet (keepSet S1.out E 2 (.int .i64 (1 + j3)) (by omega)) E 3 (.bool false) (by omega))
              have T2 := Lib.hid (keepSet (keepSet S2.out E 2 (.int .i64 (1 + j3)) (by omega)) E 3 (.bool false) (by omega))
              have T4 := Lib.hid (keepSet (keepSet S4.out E 2 (.int .i64 (1 + j3)) (by omega)) E 3 (.bool false) (by omega))
              have TE := Lib.hid (heap_setCell_same _ E 3 _ _ (.bool false) (heap_setCell_same _ E 2 _ _ (.int .i64 (1 + j3)) QE.out))
              have hO3 := Lib.hid (OwnF.set (C := E) (i := 3) (u := .bool false) (OwnF.set (C := E) (i := 2) (u := .int .i64 (1 + j3)) hO2.out HNE.out) HNE.out)
              have hb3 := (Below.setCell (Below.setCell hb2 (p := ⟨E, 2, none⟩) (by show w.heap.size ≤ E; omega) (.int .i64 (1 + j3))) (p := ⟨E, 3, none⟩) (by show w.heap.size ≤ E; omega) (.bool false))
              obtain ⟨U3, hU3⟩ : ∃ U3, ((U.setCell ⟨E, 2, none⟩ (.int .i64 (1 + j3))).setCell ⟨E, 3, none⟩ (.bool false)) = U3 := ⟨_, rfl⟩
              rw [hU3] at T0 T1 T2 T4 TE hO3 hb3 ⊢
              clear hU3 c0 c1 c2 c3 k0 k1 k2 k3 s0 s1 s2 s3 m0 m1
              refine (refField_any NM fs _ (nmF j1) U3 (hO3.out.isF.weaken (fun _ _ => trivial))).mono ?_
              rintro e U4 ⟨rfl, hb4⟩
              obtain ⟨f, hf⟩ : ∃ f : Fld, (⟨nmF j1, ⟨1 + j2, 1 + j3⟩, false⟩ : Fld) = f := ⟨_, rfl⟩
              have TE' : Hid (U4.heap[E]? = some (.cells #[.string (str f.n), .int .i64 f.t.k, .int .i64 f.t.o, .bool f.ix] 53 (0, 0))) := by rw [← hf]; exact (hb4.block _ (heap_lt TE.out)).trans TE.out
              have T0' := Lib.hid ((hb4.block _ (heap_lt T0.out)).trans T0.out)
              have T1' := Lib.hid ((hb4.block _ (heap_lt T1.out)).trans T1.out)
              have T2' := Lib.hid ((hb4.block _ (heap_lt T2.out)).trans T2.out)
              have T4' := Lib.hid ((hb4.block _ (heap_lt T4.out)).trans T4.out)
              have hO4 := Lib.hid (hO3.out.ext hb4)
              have hb5 := hb3.trans (hb4.mono hb3.size)
              have HFF : Hid (fieldOf rr = f) := HF.out.trans hf
              have HN : Hid (nmF j1 = f.n) := by show _ = _; rw [← hf]
              clear hf HF TE T0 T1 T2 T4 hO3 hb3 hb4 S0 S1 S2 S4 SR QE hO2 hb2
              by_cases hneg : fieldAt fs (nmF j1) < 0
              · rw [fieldRes, if_pos hneg]
                have HADD : Hid (addF fs rr = fs ++ [f]) := by show _ = _; rw [addF, HFF.out, ← HN.out, if_pos hneg]
                clear hneg
                obtain ⟨f0, f1, f2, f3⟩ := blk4 TE'.out
                obtain ⟨m0, m1⟩ := blk2 T4'.out
                have hBd : Below U4.heap.size U4 (U4.alloc (.cells #[.string (str f.n), .int .i64 f.t.k, .int .i64 f.t.o, .bool f.ix] 53)) := (Below.refl _ _).alloc (Nat.le_refl _) _
                have hO5 := hO4.out.ext hBd
                have hF5 := isF_one f (World.alloc_heap_new U4 (.cells #[.string (str f.n), .int .i64 f.t.k, .int .i64 f.t.o, .bool f.ix] 53))
                have A0 := Lib.hid ((hBd.block _ (heap_lt T0'.out)).trans T0'.out)
                have A1 := Lib.hid ((hBd.block _ (heap_lt T1'.out)).trans T1'.out)
                have A2 := Lib.hid ((hBd.block _ (heap_lt T2'.out)).trans T2'.out)
                have A4 := Lib.hid ((hBd.block _ (heap_lt T4'.out)).trans T4'.out)
                have hb6 := hb5.trans (hBd.mono hb5.size)
                have hlen : fs.length + [f].length ≤ 1000000 := by simp; omega
                have hbs : w.heap.size + 5 ≤ (U4.alloc (.cells #[.string (str f.n), .int .i64 f.t.k, .int .i64 f.t.o, .bool f.ix] 53)).heap.size := by have := heap_lt TE'.out; simp; omega
                go_wp2_with (at_builtin; refine wpList_appFs rfl _ _ rfl hO5 hF5 (fun h => by cases h) rfl rfl hlen hbs ?_; intro v' wA0 hown' hgr0; obtain ⟨LA0, pA0, cA0, rfl, hLA0, hown0⟩ := hown'.formL; clear hown'; have q8 := hO5.keep hgr0 A4.out (by decide); have e1 := blk_cells' q8 1; have g1 := blk_frozen q8 1; simp only [List.getElem?_toArray, List.getElem?_cons_zero, List.getElem?_cons_succ] at e1; have Q8 := Lib.hid q8; clear q8)
                have B0 := hO5.keep hgr0 A0.out (by decide)
                have B1 := hO5.keep hgr0 A1.out (by decide)
                have B2 := hO5.keep hgr0 A2.out (by decide)
                have hb7 := hb6.grown hgr0 (by omega) (fun k hk => by have := hO5.below k hk; omega)
                refine ⟨⟨k + 1, LA0, pA0, cA0, by omega, by omega, rfl, keepSet B0 _ _ _ (by omega), keepSet B1 _ _ _ (by omega), keepSet B2 _ _ _ (by omega), heap_setCell_same _ _ _ _ _ _ Q8.out, hown0.out.set (hown0.out.ne Q8.out (by decide)), hb7.setCell (by show w.heap.size ≤ w.heap.size + 4; omega) _, ?_, ?_⟩, by simp [intOf]; omega⟩
                · show _ = _
                  rw [take_fold _ _ _ HX.out, hfold.out, HADD.out, hLA0.out]
                · rw [hLA0.out]; simp; omega
              · rw [fieldRes, if_neg hneg]
                have HADD : Hid (addF fs rr = fs) := by show _ = _; rw [addF, HFF.out, ← HN.out, if_neg hneg]
                have hneg' : 0 ≤ fieldAt fs (nmF j1) := by omega
                clear hneg
                go_wp2_with fail
                refine ⟨⟨k + 1, fs, pL, cL, by omega, by omega, rfl, T0', T1', T2', T4', hO4, hb5, ?_, by omega⟩, by simp [intOf]; omega⟩
                show _ = _
                rw [take_fold _ _ _ HX.out, hfold.out, HADD.out]
          · have hk5 : ((1 + (j2 : Int)) == 5) = false := by simp; omega
            have hj4' : j2 ≤ 3 := by omega
            clear hj4
            cases rix
            · have HF : Hid (fieldOf rr = ⟨nmF j1, ⟨1 + j2, 0⟩, false⟩) := by
                show _ = _
                have q1 : pick rn 6 = j1 := HJ1
                have q2 : pick rk 5 = j2 := HJ2
                have q3 : pick ro 4 = j3 := HJ3
                rw [HL.out]
                simp only [fieldOf, q1, q2, q3, Bool.false_and]
                rw [if_neg (by omega)]
              go_wp2_with fail
              have T0 := Lib.hid (keepSet S0.out E 3 (.bool false) (by omega))
              have T1 := Lib.hid (keepSet S1.out E 3 (.bool false) (by omega))
              have T2 := Lib.hid (keepSet S2.out E 3 (.bool false) (by omega))
              have T4 := Lib.hid (keepSet S4.out E 3 (.bool false) (by omega))
              have TE := Lib.hid (heap_setCell_same _ E 3 _ _ (.bool false) QE.out)
              have hO3 := Lib.hid (OwnF.set (C := E) (i := 3) (u := .bool false) hO2.out HNE.out)
              have hb3 := (Below.setCell hb2 (p := ⟨E, 3, none⟩) (by show w.heap.size ≤ E; omega) (.bool false))
              obtain ⟨U3, hU3⟩ : ∃ U3, (U.setCell ⟨E, 3, none⟩ (.bool false)) = U3 := ⟨_, rfl⟩
              rw [hU3] at T0 T1 T2 T4 TE hO3 hb3 ⊢
              clear hU3 c0 c1 c2 c3 k0 k1 k2 k3 s0 s1 s2 s3 m0 m1
              refine (refField_any NM fs _ (nmF j1) U3 (hO3.out.isF.weaken (fun _ _ => trivial))).mono ?_
              rintro e U4 ⟨rfl, hb4⟩
              obtain ⟨f, hf⟩ : ∃ f : Fld, (⟨nmF j1, ⟨1 + j2, 0⟩, false⟩ : Fld) = f := ⟨_, rfl⟩
              have TE' : Hid (U4.heap[E]? = some (.cells #[.string (str f.n), .int .i64 f.t.k, .int .i64 f.t.o, .bool f.ix] 53 (0, 0))) := by rw [← hf]; exact (hb4.block _ (heap_lt TE.out)).trans TE.out
              have T0' := Lib.hid ((hb4.block _ (heap_lt T0.out)).trans T0.out)
              have T1' := Lib.hid ((hb4.block _ (heap_lt T1.out)).trans T1.out)
              have T2' := Lib.hid ((hb4.block _ (heap_lt T2.out)).trans T2.out)
              have T4' := Lib.hid ((hb4.block _ (heap_lt T4.out)).trans T4.out)
              have hO4 := Lib.hid (hO3.out.ext hb4)
              have hb5 := hb3.trans (hb4.mono hb3.size)
              have HFF : Hid (fieldOf rr = f) := HF.out.trans hf
              have HN : Hid (nmF j1 = f.n) := by show _ = _; rw [← hf]
              clear hf HF TE T0 T1 T2 T4 hO3 hb3 hb4 S0 S1 S2 S4 SR QE hO2 hb2
              by_cases hneg : fieldAt fs (nmF j1) < 0
              · rw [fieldRes, if_pos hneg]
                have HADD : Hid (addF fs rr = fs ++ [f]) := by show _ = _; rw [addF, HFF.out, ← HN.out, if_pos hneg]
                clear hneg
                obtain ⟨f0, f1, f2, f3⟩ := blk4 TE'.out
                obtain ⟨m0, m1⟩ := blk2 T4'.out
                have hBd : Below U4.heap.size U4 (U4.alloc (.cells #[.string (str f.n), .int .i64 f.t.k, .int .i64 f.t.o, .bool f.ix] 53)) := (Below.refl _ _).alloc (Nat.le_refl _) _
                have hO5 := hO4.out.ext hBd
                have hF5 := isF_one f (World.alloc_heap_new U4 (.cells #[.string (str f.n), .int .i64 f.t.k, .int .i64 f.t.o, .bool f.ix] 53))
                have A0 := Lib.hid ((hBd.block _ (heap_lt T0'.out)).trans T0'.out)
                have A1 := Lib.hid ((hBd.block _ (heap_lt T1'.out)).trans T1'.out)
                have A2 := Lib.hid ((hBd.block _ (heap_lt T2'.out)).trans T2'.out)
                have A4 := Lib.hid ((hBd.block _ (heap_lt T4'.out)).trans T4'.out)
                have hb6 := hb5.trans (hBd.mono hb5.size)
                have hlen : fs.length + [f].length ≤ 1000000 := by simp; omega
                have hbs : w.heap.size + 5 ≤ (U4.alloc (.cells #[.string (str f.n), .int .i64 f.t.k, .int .i64 f.t.o, .bool f.ix] 53)).heap.size := by have := heap_lt TE'.out; simp; omega
                go_wp2_with (at_builtin; refine wpList_appFs rfl _ _ rfl hO5 hF5 (fun h => by cases h) rfl rfl hlen hbs ?_; intro v' wA0 hown' hgr0; obtain ⟨LA0, pA0, cA0, rfl, hLA0, hown0⟩ := hown'.formL; clear hown'; have q8 := hO5.keep hgr0 A4.out (by decide); have e1 := blk_cells' q8 1; have g1 := blk_frozen q8 1; simp only [List.getElem?_toArray, List.getElem?_cons_zero, List.getElem?_cons_succ] at e1; have Q8 := Lib.hid q8; clear q8)
                have B0 := hO5.keep hgr0 A0.out (by decide)
                have B1 := hO5.keep hgr0 A1.out (by decide)
                have B2 := hO5.keep hgr0 A2.out (by decide)
                have hb7 := hb6.grown hgr0 (by omega) (fun k hk => by have := hO5.below k hk; omega)
                refine ⟨⟨k + 1, LA0, pA0, cA0, by omega, by omega, rfl, keepSet B0 _ _ _ (by omega), keepSet B1 _ _ _ (by omega), keepSet B2 _ _ _ (by omega), heap_setCell_same _ _ _ _ _ _ Q8.out, hown0.out.set (hown0.out.ne Q8.out (by decide)), hb7.setCell (by show w.heap.size ≤ w.heap.size + 4; omega) _, ?_, ?_⟩, by simp [intOf]; omega⟩
                · show _ = _
                  rw [take_fold _ _ _ HX.out, hfold.out, HADD.out, hLA0.out]
                · rw [hLA0.out]; simp; omega
              · rw [fieldRes, if_neg hneg]
                have HADD : Hid (addF fs rr = fs) := by show _ = _; rw [addF, HFF.out, ← HN.out, if_neg hneg]
                have hneg' : 0 ≤ fieldAt fs (nmF j1) := by omega
                clear hneg
                go_wp2_with fail
                refine ⟨⟨k + 1, fs, pL, cL, by omega, by omega, rfl, T0', T1', T2', T4', hO4, hb5, ?_, by omega⟩, by simp [intOf]; omega⟩
                show _ = _
                rw [take_fold _ _ _ HX.out, hfold.out, HADD.out]
            · by_cases hj3 : j2 ≤ 2
              · have hk3 : decide (1 + (j2 : Int) ≤ 3) = true := by simp; omega
                have HF : Hid (fieldOf rr = ⟨nmF j1, ⟨1 + j2, 0⟩, true⟩) := by
                  show _ = _
                  have q1 : pick rn 6 = j1 := HJ1
                  have q2 : pick rk 5 = j2 := HJ2
                  have q3 : pick ro 4 = j3 := HJ3
                  rw [HL.out]
                  simp only [fieldOf, q1, q2, q3, hk3, Bool.true_and]
                  rw [if_neg (by omega)]
                go_wp2_with fail
                have T0 := Lib.hid (keepSet S0.out E 3 (.bool true) (by omega))
                have T1 := Lib.hid (keepSet S1.out E 3 (.bool true) (by omega))
                have T2 := Lib.hid (keepSet S2.out E 3 (.bool true) (by omega))
                have T4 := Lib.hid (keepSet S4.out E 3 (.bool true) (by omega))
                have TE := Lib.hid (heap_setCell_same _ E 3 _ _ (.bool true) QE.out)
                have hO3 := Lib.hid (OwnF.set (C := E) (i := 3) (u := .bool true) hO2.out HNE.out)
                have hb3 := (Below.setCell hb2 (p := ⟨E, 3, none⟩) (by show w.heap.size ≤ E; omega) (.bool true))
                obtain ⟨U3, hU3⟩ : ∃ U3, (U.setCell ⟨E, 3, none⟩ (.bool true)) = U3 := ⟨_, rfl⟩
                rw [hU3] at T0 T1 T2 T4 TE hO3 hb3 ⊢
                clear hU3 c0 c1 c2 c3 k0 k1 k2 k3 s0 s1 s2 s3 m0 m1
                refine (refField_any NM fs _ (nmF j1) U3 (hO3.out.isF.weaken (fun _ _ => trivial))).mono ?_
                rintro e U4 ⟨rfl, hb4⟩
                obtain ⟨f, hf⟩ : ∃ f : Fld, (⟨nmF j1, ⟨1 + j2, 0⟩, true⟩ : Fld) = f := ⟨_, rfl⟩
                have TE' : Hid (U4.heap[E]? = some (.cells #[.string (str f.n), .int .i64 f.t.k, .int .i64 f.t.o, .bool f.ix] 53 (0, 0))) := by rw [← hf]; exact (hb4.block _ (heap_lt TE.out)).trans TE.out
                have T0' := Lib.hid ((hb4.block _ (heap_lt T0.out)).trans T0.out)
                have T1' := Lib.hid ((hb4.block _ (heap_lt T1.out)).trans T1.out)
                have T2' := Lib.hid ((hb4.block _ (heap_lt T2.out)).trans T2.out)
                have T4' := Lib.hid ((hb4.block _ (heap_lt T4.out)).trans T4.out)
                have hO4 := Lib.hid (hO3.out.ext hb4)
                have hb5 := hb3.trans (hb4.mono hb3.size)
                have HFF : Hid (fieldOf rr = f) := HF.out.trans hf
                have HN : Hid (nmF j1 = f.n) := by show _ = _; rw [← hf]
                clear hf HF TE T0 T1 T2 T4 hO3 hb3 hb4 S0 S1 S2 S4 SR QE hO2 hb2
                by_cases hneg : fieldAt fs (nmF j1) < 0
                · rw [fieldRes, if_pos hneg]
                  have HADD : Hid (addF fs rr = fs ++ [f]) := by show _ = _; rw [addF, HFF.out, ← HN.out, if_pos hneg]
                  clear hneg
                  obtain ⟨f0, f1, f2, f3⟩ := blk4 TE'.out
                  obtain ⟨m0, m1⟩ := blk2 T4'.out
                  have hBd : Below U4.heap.size U4 (U4.alloc (.cells #[.string (str f.n), .int .i64 f.t.k, .int .i64 f.t.o, .bool f.ix] 53)) := (Below.refl _ _).alloc (Nat.le_refl _) _
                  have hO5 := hO4.out.ext hBd
                  have hF5 := isF_one f (World.alloc_heap_new U4 (.cells #[.string (str f.n), .int .i64 f.t.k, .int .i64 f.t.o, .bool f.ix] 53))
                  have A0 := Lib.hid ((hBd.block _ (heap_lt T0'.out)).trans T0'.out)
                  have A1 := Lib.hid ((hBd.block _ (heap_lt T1'.out)).trans T1'.out)
                  have A2 := Lib.hid ((hBd.block _ (heap_lt T2'.out)).trans T2'.out)
                  have A4 := Lib.hid ((hBd.block _ (heap_lt T4'.out)).trans T4'.out)
                  have hb6 := hb5.trans (hBd.mono hb5.size)
                  have hlen : fs.length + [f].length ≤ 1000000 := by simp; omega
                  have hbs : w.heap.size + 5 ≤ (U4.alloc (.cells #[.string (str f.n), .int .i64 f.t.k, .int .i64 f.t.o, .bool f.ix] 53)).heap.size := by have := heap_lt TE'.out; simp; omega
                  go_wp2_with (at_builtin; refine wpList_appFs rfl _ _ rfl hO5 hF5 (fun h => by cases h) rfl rfl hlen hbs ?_; intro v' wA0 hown' hgr0; obtain ⟨LA0, pA0, cA0, rfl, hLA0, hown0⟩ := hown'.formL; clear hown'; have q8 := hO5.keep hgr0 A4.out (by decide); have e1 := blk_cells' q8 1; have g1 := blk_frozen q8 1; simp only [List.getElem?_toArray, List.getElem?_cons_zero, List.getElem?_cons_succ] at e1; have Q8 := Lib.hid q8; clear q8)
                  have B0 := hO5.keep hgr0 A0.out (by decide)
                  have B1 := hO5.keep hgr0 A1.out (by decide)
                  have B2 := hO5.keep hgr0 A2.out (by decide)
                  have hb7 := hb6.grown hgr0 (by omega) (fun k hk => by have := hO5.below k hk; omega)
                  refine ⟨⟨k + 1, LA0, pA0, cA0, by omega, by omega, rfl, keepSet B0 _ _ _ (by omega), keepSet B1 _ _ _ (by omega), keepSet B2 _ _ _ (by omega), heap_setCell_same _ _ _ _ _ _ Q8.out, hown0.out.set (hown0.out.ne Q8.out (by decide)), hb7.setCell (by show w.heap.size ≤ w.heap.size + 4; omega) _, ?_, ?_⟩, by simp [intOf]; omega⟩
                  · show _ = _
                    rw [take_fold _ _ _ HX.out, hfold.out, HADD.out, hLA0.out]
                  · rw [hLA0.out]; simp; omega
                · rw [fieldRes, if_neg hneg]
                  have HADD : Hid (addF fs rr = fs) := by show _ = _; rw [addF, HFF.out, ← HN.out, if_neg hneg]
                  have hneg' : 0 ≤ fieldAt fs (nmF j1) := by omega
                  clear hneg
                  go_wp2_with fail
                  refine ⟨⟨k + 1, fs, pL, cL, by omega, by omega, rfl, T0', T1', T2', T4', hO4, hb5, ?_, by omega⟩, by simp [intOf]; omega⟩
                  show _ = _
                  rw [take_fold _ _ _ HX.out, hfold.out, HADD.out]
              · have hk3 : decide (1 + (j2 : Int) ≤ 3) = false := by simp; omega
                have HF : Hid (fieldOf rr = ⟨nmF j1, ⟨1 + j2, 0⟩, false⟩) := by
                  show _ = _
                  have q1 : pick rn 6 = j1 := HJ1
                  have q2 : pick rk 5 = j2 := HJ2
                  have q3 : pick ro 4 = j3 := HJ3
                  rw [HL.out]
                  simp only [fieldOf, q1, q2, q3, hk3, Bool.true_and]
                  rw [if_neg (by omega)]
                have hj3' : 3 ≤ j2 := by omega
                clear hj3
                go_wp2_with fail
                have T0 := Lib.hid (keepSet S0.out E 3 (.bool false) (by omega))
                have T1 := Lib.hid (keepSet S1.out E 3 (.bool false) (by omega))
                have T2 := Lib.hid (keepSet S2.out E 3 (.bool false) (by omega))
                have T4 := Lib.hid (keepSet S4.out E 3 (.bool false) (by omega))
                have TE := Lib.hid (heap_setCell_same _ E 3 _ _ (.bool false) QE.out)
                have hO3 := Lib.hid (OwnF.set (C := E) (i := 3) (u := .bool false) hO2.out HNE.out)
                have hb3 := (Below.setCell hb2 (p := ⟨E, 3, none⟩) (by show w.heap.size ≤ E; omega) (.bool false))
                obtain ⟨U3, hU3⟩ : ∃ U3, (U.setCell ⟨E, 3, none⟩ (.bool false)) = U3 := ⟨_, rfl⟩
                rw [hU3] at T0 T1 T2 T4 TE hO3 hb3 ⊢
                clear hU3 c0 c1 c2 c3 k0 k1 k2 k3 s0 s1 s2 s3 m0 m1
                refine (refField_any NM fs _ (nmF j1) U3 (hO3.out.isF.weaken (fun _ _ => trivial))).mono ?_
                rintro e U4 ⟨rfl, hb4⟩
                obtain ⟨f, hf⟩ : ∃ f : Fld, (⟨nmF j1, ⟨1 + j2, 0⟩, false⟩ : Fld) = f := ⟨_, rfl⟩
                have TE' : Hid (U4.heap[E]? = some (.cells #[.string (str f.n), .int .i64 f.t.k, .int .i64 f.t.o, .bool f.ix] 53 (0, 0))) := by rw [← hf]; exact (hb4.block _ (heap_lt TE.out)).trans TE.out
                have T0' := Lib.hid ((hb4.block _ (heap_lt T0.out)).trans T0.out)
                have T1' := Lib.hid ((hb4.block _ (heap_lt T1.out)).trans T1.out)
                have T2' := Lib.hid ((hb4.block _ (heap_lt T2.out)).trans T2.out)
                have T4' := Lib.hid ((hb4.block _ (heap_lt T4.out)).trans T4.out)
                have hO4 := Lib.hid (hO3.out.ext hb4)
                have hb5 := hb3.trans (hb4.mono hb3.size)
                have HFF : Hid (fieldOf rr = f) := HF.out.trans hf
                have HN : Hid (nmF j1 = f.n) := by show _ = _; rw [← hf]
                clear hf HF TE T0 T1 T2 T4 hO3 hb3 hb4 S0 S1 S2 S4 SR QE hO2 hb2
                by_cases hneg : fieldAt fs (nmF j1) < 0
                · rw [fieldRes, if_pos hneg]
                  have HADD : Hid (addF fs rr = fs ++ [f]) := by show _ = _; rw [addF, HFF.out, ← HN.out, if_pos hneg]
                  clear hneg
                  obtain ⟨f0, f1, f2, f3⟩ := blk4 TE'.out
                  obtain ⟨m0, m1⟩ := blk2 T4'.out
                  have hBd : Below U4.heap.size U4 (U4.alloc (.cells #[.string (str f.n), .int .i64 f.t.k, .int .i64 f.t.o, .bool f.ix] 53)) := (Below.refl _ _).alloc (Nat.le_refl _) _
                  have hO5 := hO4.out.ext hBd
                  have hF5 := isF_one f (World.alloc_heap_new U4 (.cells #[.string (str f.n), .int .i64 f.t.k, .int .i64 f.t.o, .bool f.ix] 53))
                  have A0 := Lib.hid ((hBd.block _ (heap_lt T0'.out)).trans T0'.out)
                  have A1 := Lib.hid ((hBd.block _ (heap_lt T1'.out)).trans T1'.out)
                  have A2 := Lib.hid ((hBd.block _ (heap_lt T2'.out)).trans T2'.out)
                  have A4 := Lib.hid ((hBd.block _ (heap_lt T4'.out)).trans T4'.out)
                  have hb6 := hb5.trans (hBd.mono hb5.size)
                  have hlen : fs.length + [f].length ≤ 1000000 := by simp; omega
                  have hbs : w.heap.size + 5 ≤ (U4.alloc (.cells #[.string (str f.n), .int .i64 f.t.k, .int .i64 f.t.o, .bool f.ix] 53)).heap.size := by have := heap_lt TE'.out; simp; omega
                  go_wp2_with (at_builtin; refine wpList_appFs rfl _ _ rfl hO5 hF5 (fun h => by cases h) rfl rfl hlen hbs ?_; intro v' wA0 hown' hgr0; obtain ⟨LA0, pA0, cA0, rfl, hLA0, hown0⟩ := hown'.formL; clear hown'; have q8 := hO5.keep hgr0 A4.out (by decide); have e1 := blk_cells' q8 1; have g1 := blk_frozen q8 1; simp only [List.getElem?_toArray, List.getElem?_cons_zero, List.getElem?_cons_succ] at e1; have Q8 := Lib.hid q8; clear q8)
                  have B0 := hO5.keep hgr0 A0.out (by decide)
                  have B1 := hO5.keep hgr0 A1.out (by decide)
                  have B2 := hO5.keep hgr0 A2.out (by decide)
                  have hb7 := hb6.grown hgr0 (by omega) (fun k hk => by have := hO5.below k hk; omega)
                  refine ⟨⟨k + 1, LA0, pA0, cA0, by omega, by omega, rfl, keepSet B0 _ _ _ (by omega), keepSet B1 _ _ _ (by omega), keepSet B2 _ _ _ (by omega), heap_setCell_same _ _ _ _ _ _ Q8.out, hown0.out.set (hown0.out.ne Q8.out (by decide)), hb7.setCell (by show w.heap.size ≤ w.heap.size + 4; omega) _, ?_, ?_⟩, by simp [intOf]; omega⟩
                  · show _ = _
                    rw [take_fold _ _ _ HX.out, hfold.out, HADD.out, hLA0.out]
                  · rw [hLA0.out]; simp; omega
                · rw [fieldRes, if_neg hneg]
                  have HADD : Hid (addF fs rr = fs) := by show _ = _; rw [addF, HFF.out, ← HN.out, if_neg hneg]
                  have hneg' : 0 ≤ fieldAt fs (nmF j1) := by omega
                  clear hneg
                  go_wp2_with fail
                  refine ⟨⟨k + 1, fs, pL, cL, by omega, by omega, rfl, T0', T1', T2', T4', hO4, hb5, ?_, by omega⟩, by simp [intOf]; omega⟩
                  show _ = _
                  rw [take_fold _ _ _ HX.out, hfold.out, HADD.out]
      · have hk6' : k = 6 := by omega
        subst hk6'
        obtain ⟨m0, m1⟩ := blk2 P4.out
        have c0 := blk_cells' P1.out 0
        have c1 := blk_cells' P1.out 1
        have k0 := blk_frozen P1.out 0
        have k1 := blk_frozen P1.out 1
        simp only [List.getElem?_toArray, List.getElem?_cons_zero, List.getElem?_cons_succ] at c0 c1
        go_wp2_with fail
        refine bodyPost_ret (v := .agg #[.string (str NM), .slice pL fs.length cL]) (by simp [results, Tryd.results13, go_sem, c0, c1]) rfl ?_
        have hne := hO.out.ne P1.out (by decide)
        refine ⟨⟨.slice pL fs.length cL, ?_, ?_⟩, (hb.setCell (by show w.heap.size ≤ w.heap.size + 1; omega) _).setCell (by show w.heap.size ≤ w.heap.size + 1; omega) _⟩
        · rw [classOf, ← HNM.out, show pick x.n 6 = j from HJ]
        · have : (classOf x).fs = fs := by rw [classOf, ← hfold.out]
          rw [this]
          exact ((hO.out.set hne).set hne).lower (by omega)
    · have hkx : k = x.fs.length := by omega
      obtain ⟨m0, m1⟩ := blk2 P4.out
      have c0 := blk_cells' P1.out 0
      have c1 := blk_cells' P1.out 1
      have k0 := blk_frozen P1.out 0
      have k1 := blk_frozen P1.out 1
      simp only [List.getElem?_toArray, List.getElem?_cons_zero, List.getElem?_cons_succ] at c0 c1
      have HKX := Lib.hid hkx
      clear hkx
      go_wp2_with fail
      refine bodyPost_ret (v := .agg #[.string (str NM), .slice pL fs.length cL]) (by simp [results, Tryd.results13, go_sem, c0, c1]) rfl ?_
      have hne := hO.out.ne P1.out (by decide)
      refine ⟨⟨.slice pL fs.length cL, ?_, ?_⟩, (hb.setCell (by show w.heap.size ≤ w.heap.size + 1; omega) _).setCell (by show w.heap.size ≤ w.heap.size + 1; omega) _⟩
      · rw [classOf, ← HNM.out, show pick x.n 6 = j from HJ]
      · have : (classOf x).fs = fs := by rw [classOf, ← hfold.out]; rw [List.take_of_length_le (by have := HKX.out; omega), List.take_of_length_le (by have := HKX.out; omega)]
        rw [this]
        exact ((hO.out.set hne).set hne).lower (by omega)
end Go.Proofs.YtdlolkogifigpaaDoor
