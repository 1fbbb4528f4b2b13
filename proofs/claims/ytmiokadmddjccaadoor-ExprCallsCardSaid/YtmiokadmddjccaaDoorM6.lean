/- Merged texts: Zf2. No statement of the program is proved here. -/
import Derived.Test.YtmiokadmddjccaaDoorM5
set_option linter.unusedSimpArgs false
set_option linter.unusedVariables false
section
/- Expressions: the laws ExprOrder and ExprCalls, walked. No statement of the program is proved here. -/
namespace Go.Proofs.YtmiokadmddjccaaDoor
open Go Go.RowKit Go.Mor Go.Sh Go.Sh.Cd1 Go.Sh.Cd5
set_option maxRecDepth 100000
set_option maxHeartbeats 8000000
def opL : List (List UInt8) := [[61], [60, 62], [60], [60, 61], [62], [62, 61], [38], [43], [45], [42], [47], [37]]
theorem tmod_rng (a : Int) {k : Int} (hk : 0 < k) : -k < a.tmod k ∧ a.tmod k < k := by
  refine ⟨?_, Int.tmod_lt_of_pos a hk⟩
  have := Int.lt_tmod_of_pos a hk
  omega
theorem pick_ix (a : Int) (k : Nat) (hk : 0 < k) : ∃ i : Nat, i < k ∧ (a.tmod (k : Int) + (k : Int)).tmod (k : Int) = (i : Int) := by
  have h := tmod_rng a (k := (k : Int)) (by omega)
  have h0 : 0 ≤ a.tmod (k : Int) + (k : Int) := by omega
  obtain ⟨n, hn⟩ := Int.eq_ofNat_of_zero_le h0
  refine ⟨n % k, Nat.mod_lt _ hk, ?_⟩
  rw [hn, ← Int.ofNat_tmod]
theorem opL_at {i : Nat} (h : i < 12) : ([[PV.v (.string ⟨#[61]⟩)], [.v (.string ⟨#[60, 62]⟩)], [.v (.string ⟨#[60]⟩)], [.v (.string ⟨#[60, 61]⟩)], [.v (.string ⟨#[62]⟩)], [.v (.string ⟨#[62, 61]⟩)], [.v (.string ⟨#[38]⟩)], [.v (.string ⟨#[43]⟩)], [.v (.string ⟨#[45]⟩)], [.v (.string ⟨#[42]⟩)], [.v (.string ⟨#[47]⟩)], [.v (.string ⟨#[37]⟩)]] : List (List PV))[i]? = some [.v (.string (str (opL.getD i [])))] := by
  have : i = 0 ∨ i = 1 ∨ i = 2 ∨ i = 3 ∨ i = 4 ∨ i = 5 ∨ i = 6 ∨ i = 7 ∨ i = 8 ∨ i = 9 ∨ i = 10 ∨ i = 11 := by omega
  rcases this with rfl | rfl | rfl | rfl | rfl | rfl | rfl | rfl | rfl | rfl | rfl | rfl <;> rfl
theorem clL_at {i : Nat} (h : i < 10) : ([[PV.v (.string ⟨#[108, 101, 110]⟩)], [.v (.string ⟨#[108, 101, 102, 116]⟩)], [.v (.string ⟨#[114, 105, 103, 104, 116]⟩)], [.v (.string ⟨#[102, 114, 111, 109]⟩)], [.v (.string ⟨#[102, 105, 110, 100]⟩)], [.v (.string ⟨#[116, 101, 120, 116]⟩)], [.v (.string ⟨#[110, 117, 109]⟩)], [.v (.string ⟨#[105, 102]⟩)], [.v (.string ⟨#[109, 105, 110]⟩)], [.v (.string ⟨#[109, 97, 120]⟩)]] : List (List PV))[i]? = some [.v (.string (str (clL.getD i [])))] := by
  have : i = 0 ∨ i = 1 ∨ i = 2 ∨ i = 3 ∨ i = 4 ∨ i = 5 ∨ i = 6 ∨ i = 7 ∨ i = 8 ∨ i = 9 := by omega
  rcases this with rfl | rfl | rfl | rfl | rfl | rfl | rfl | rfl | rfl | rfl <;> rfl
theorem mem_getD {L : List (List UInt8)} {i : Nat} (h : i < L.length) : L.getD i [] ∈ L := by rw [List.getD_eq_getElem?_getD, List.getElem?_eq_getElem h]; exact List.getElem_mem h
def tA : V := fE [97]
def tB : V := fE [98]
def tC : V := fE [99]
def ordE (x y : List UInt8) : V := if bindsV x < bindsV y then oE x tA (oE y tB tC) else oE y (oE x tA tB) tC
def ord0 (x y : List UInt8) : List UInt8 := [97] ++ x ++ [98] ++ y ++ [99]
def ord1 (x y : List UInt8) : List UInt8 := if bindsV x < bindsV y then [97] ++ x ++ [40, 98] ++ y ++ [99, 41] else [40, 97] ++ x ++ [98, 41] ++ y ++ [99]
def ordT (x y : List UInt8) : List UInt8 := [97, 32] ++ x ++ [32, 98, 32] ++ y ++ [32, 99]
theorem two_maps {α β γ : Type} {f g : β → γ → α} {L : List β} {M : List γ} (h : (L.map fun x => M.map fun y => f x y) = L.map fun x => M.map fun y => g x y) {x : β} {y : γ} (hx : x ∈ L) (hy : y ∈ M) : f x y = g x y :=
  List.map_inj_left.1 (List.map_inj_left.1 h x hx) y hy
theorem ord_p0 : (opL.map fun x => opL.map fun y => parseV 60 (ord0 x y)) = opL.map fun x => opL.map fun y => some (ordE x y, 0, 0) := by kernel_rfl
theorem ord_p1 : (opL.map fun x => opL.map fun y => parseV 60 (ord1 x y)) = opL.map fun x => opL.map fun y => some (ordE x y, 0, 0) := by kernel_rfl
theorem ord_t : (opL.map fun x => opL.map fun y => txtE 8 (ordE x y)) = opL.map fun x => opL.map fun y => ordT x y := by kernel_rfl
theorem ord_r : (opL.map fun x => opL.map fun y => rightE (ordE x y)) = opL.map fun x => opL.map fun y => true := by kernel_rfl
theorem esm_ord {x y : List UInt8} (hx : x.length ≤ 2) (hy : y.length ≤ 2) : ESmall (ordE x y) := by
  unfold ordE tA tB tC
  have h1 : ∀ s : List UInt8, s.length ≤ 1 → ESmall (fE s) := fun s h => esm_fE (by omega)
  split
  · exact esm_oE (by omega) (h1 _ (by simp)) (esm_oE (by omega) (h1 _ (by simp)) (h1 _ (by simp)))
  · exact esm_oE (by omega) (esm_oE (by omega) (h1 _ (by simp)) (h1 _ (by simp))) (h1 _ (by simp))
theorem op_len : ∀ x ∈ opL, x.length ≤ 2 := by decide
open Classical in
theorem exprOrder_ok (m : Nat) (a b : Int) (ha : I64 a) (hb : I64 b) : SCalls Tryd.prog (glT m) 4 [I a, I b] [] (.pv (.v (.bool true))) [] := by
  obtain ⟨i, hi, ei⟩ := pick_ix a 12 (by omega)
  obtain ⟨j, hj, ej⟩ := pick_ix b 12 (by omega)
  have ra := tmod_rng a (k := 12) (by omega)
  have rb := tmod_rng b (k := 12) (by omega)
  have wa : IntKind.i64.wrap (a.tmod 12 + 12) = a.tmod 12 + 12 := wrap64 (by omega) (by omega)
  have wb : IntKind.i64.wrap (b.tmod 12 + 12) = b.tmod 12 + 12 := wrap64 (by omega) (by omega)
  have ei : (a.tmod 12 + 12).tmod 12 = (i : Int) := ei
  have ej : (b.tmod 12 + 12).tmod 12 = (j : Int) := ej
  have ai := opL_at hi
  have aj := opL_at hj
  have mx := mem_getD (L := opL) (i := i) (by exact hi)
  have my := mem_getD (L := opL) (i := j) (by exact hj)
  generalize opL.getD i [] = x at ai mx
  generalize opL.getD j [] = y at aj my
  have lx := op_len x mx
  have ly := op_len y my
  have HS := shown_ok m
  have B1 := refBinds_ok (glT m) x
  have B2 := refBinds_ok (glT m) y
  have P0 := sc_0T (parse_any m (ord0 x y) (two_maps ord_p0 mx my))
  have P1 := sc_0T (parse_any m (ord1 x y) (two_maps ord_p1 mx my))
  have hs := esm_ord lx ly
  have R1 := print_ok m (ordE x y) hs
  have hr : rightE (ordE x y) = true := two_maps (g := fun _ _ => true) ord_r mx my
  have ht : txtE 8 (ordE x y) = ordT x y := two_maps ord_t mx my
  have S1 := exprSame_ok (glT m) (ordE x y) hs (ordE x y)
  rw [decide_eq_true rfl] at S1
  unfold prV at R1
  rw [if_pos hr, ht] at R1
  unfold parT at P0 P1
  simp only [if_true] at P0 P1
  generalize ordE x y = e at *
  unfold ord0 at P0
  unfold ord1 at P1
  unfold ordT at R1
  simp only [List.cons_append, List.nil_append] at P0 R1
  unfold B at *
  have q1 : (⟨#[97]⟩ : ByteArray) = str [97] := rfl
  have q2 : (⟨#[98]⟩ : ByteArray) = str [98] := rfl
  have q3 : (⟨#[99]⟩ : ByteArray) = str [99] := rfl
  have q4 : (⟨#[40, 97]⟩ : ByteArray) = str [40, 97] := rfl
  have q5 : (⟨#[98, 41]⟩ : ByteArray) = str [98, 41] := rfl
  have q6 : (⟨#[40, 98]⟩ : ByteArray) = str [40, 98] := rfl
  have q7 : (⟨#[99, 41]⟩ : ByteArray) = str [99, 41] := rfl
  have q8 : (⟨#[97, 32]⟩ : ByteArray) = str [97, 32] := rfl
  have q9 : (⟨#[32, 98, 32]⟩ : ByteArray) = str [32, 98, 32] := rfl
  have q10 : (⟨#[32, 99]⟩ : ByteArray) = str [32, 99] := rfl
  refine call_of0 hmix tf_morainelaw05_ExprOrder rfl ?_
  simp only [vcA, seval, vV]
  (with_reducible apply v_call); (· simp only [vcA, seval, vV]; with_reducible rfl); (· rfl); (· exact HS); (· first | rfl | (simp only [vcA, seval]; omega)); (· simp only [vcA, seval, vV]; with_reducible rfl)
  simp only [vcA, seval, vV, wa, wb, ei, ej, ai, aj, q1, q2, q3, q4, q5]
  refine ⟨by omega, by omega, by omega, by omega, ?_⟩
  (with_reducible apply v_call); (· simp only [vcA, seval, vV]; with_reducible rfl); (· rfl); (· exact B1); (· first | rfl | (simp only [vcA, seval]; omega)); (· simp only [vcA, seval, vV]; with_reducible rfl)
  simp only [vcA, seval, vV]
  (with_reducible apply v_call); (· simp only [vcA, seval, vV]; with_reducible rfl); (· rfl); (· exact B2); (· first | rfl | (simp only [vcA, seval]; omega)); (· simp only [vcA, seval, vV]; with_reducible rfl)
  by_cases hb : bindsV x < bindsV y
  · rw [if_pos hb] at P1
    simp only [List.cons_append, List.nil_append] at P1
    simp only [vcA, seval, vV, hb, q1, q2, q3, q6, q7]
    refine ⟨by omega, by omega, by omega, by omega, by omega, by omega, by omega, by omega, ?_⟩
    (with_reducible apply v_call); (· simp only [vcA, seval, vV]; with_reducible rfl); (· rfl); (· exact P0); (· first | rfl | (simp only [vcA, seval]; omega)); (· simp only [vcA, seval, vV]; with_reducible rfl)
    simp only [vcA, seval, vV]
    (with_reducible apply v_call); (· simp only [vcA, seval, vV]; with_reducible rfl); (· rfl); (· exact P1); (· first | rfl | (simp only [vcA, seval]; omega)); (· simp only [vcA, seval, vV]; with_reducible rfl)
    simp only [vcA, seval, vV]
    (with_reducible apply v_call); (· simp only [vcA, seval, vV]; with_reducible rfl); (· rfl); (· exact R1); (· first | rfl | (simp only [vcA, seval]; omega)); (· simp only [vcA, seval, vV]; with_reducible rfl)
    simp only [vcA, seval, vV]
    (with_reducible apply v_call); (· simp only [vcA, seval, vV]; with_reducible rfl); (· rfl); (· exact S1); (· first | rfl | (simp only [vcA, seval]; omega)); (· simp only [vcA, seval, vV]; with_reducible rfl)
    simp only [vcA, seval, vV, q8, q9, q10]
    exact ⟨by omega, by omega, by omega, by omega⟩
  · rw [if_neg hb] at P1
    simp only [List.cons_append, List.nil_append] at P1
    simp only [vcA, seval, vV, hb, q1, q2, q3]
    refine ⟨by omega, by omega, by omega, by omega, ?_⟩
    (with_reducible apply v_call); (· simp only [vcA, seval, vV]; with_reducible rfl); (· rfl); (· exact P0); (· first | rfl | (simp only [vcA, seval]; omega)); (· simp only [vcA, seval, vV]; with_reducible rfl)
    simp only [vcA, seval, vV]
    (with_reducible apply v_call); (· simp only [vcA, seval, vV]; with_reducible rfl); (· rfl); (· exact P1); (· first | rfl | (simp only [vcA, seval]; omega)); (· simp only [vcA, seval, vV]; with_reducible rfl)
    simp only [vcA, seval, vV]
    (with_reducible apply v_call); (· simp only [vcA, seval, vV]; with_reducible rfl); (· rfl); (· exact R1); (· first | rfl | (simp only [vcA, seval]; omega)); (· simp only [vcA, seval, vV]; with_reducible rfl)
    simp only [vcA, seval, vV]
    (with_reducible apply v_call); (· simp only [vcA, seval, vV]; with_reducible rfl); (· rfl); (· exact S1); (· first | rfl | (simp only [vcA, seval]; omega)); (· simp only [vcA, seval, vV]; with_reducible rfl)
    simp only [vcA, seval, vV, q8, q9, q10]
    exact ⟨by omega, by omega, by omega, by omega⟩
theorem esm_call {s : List UInt8} {k : Nat} (hs : s.length ≤ 5) (hk : k < 5) : ESmall (.mk 6 0 s (List.replicate (k + 1) (.mk 3 0 [120] []))) := esm (by omega) (by simp; omega) (fun y hy => by rw [List.eq_of_mem_replicate hy]; exact esm_fE (by simp))
theorem cl_len : ∀ x ∈ clL, x.length ≤ 5 := by decide
theorem cl_takes : ∀ x ∈ clL, 1 ≤ takesV x ∧ takesV x ≤ 3 := by decide
theorem exprCalls_ok (m : Nat) (a n : Int) (ha : I64 a) (hn : I64 n) : SCalls Tryd.prog (glT m) 5 [I a, I n] [] (.pv (.v (.bool true))) [] := by
  obtain ⟨i, hi, ei⟩ := pick_ix a 10 (by omega)
  have ra := tmod_rng a (k := 10) (by omega)
  have wa : IntKind.i64.wrap (a.tmod 10 + 10) = a.tmod 10 + 10 := wrap64 (by omega) (by omega)
  have ei : (a.tmod 10 + 10).tmod 10 = (i : Int) := ei
  have ai := clL_at hi
  have mx := mem_getD (L := clL) (i := i) (by exact hi)
  generalize clL.getD i [] = x at ai mx
  have lx := cl_len x mx
  have tx := cl_takes x mx
  obtain ⟨N, hN, en⟩ : ∃ N : Nat, N < 5 ∧ min (max n 1) 5 = ((N + 1 : Nat) : Int) := ⟨(min (max n 1) 5 - 1).toNat, by omega, by omega⟩
  have HS := shown_ok m
  have B1 := refArity_ok (glT m) x
  have P0 := sc_0T (parse_any m (callX x N ++ [41]) (two_maps call_p mx (List.mem_range.2 hN)))
  have hlen := callX_len x N
  unfold B at *
  have q1 : (⟨#[40, 120]⟩ : ByteArray) = str [40, 120] := rfl
  have q2 : (⟨#[44, 120]⟩ : ByteArray) = str [44, 120] := rfl
  have q3 : (⟨#[41]⟩ : ByteArray) = str [41] := rfl
  refine call_of0 hmix tf_morainelaw05_ExprCalls rfl ?_
  simp only [vcA, seval, vV]
  (with_reducible apply v_call); (· simp only [vcA, seval, vV]; with_reducible rfl); (· rfl); (· exact HS); (· first | rfl | (simp only [vcA, seval]; omega)); (· simp only [vcA, seval, vV]; with_reducible rfl)
  simp only [vcA, seval, vV, wa, ei, ai, en, q1]
  refine ⟨by omega, ?_⟩
  refine v_loop (σ := {k : Nat // k ≤ N}) (fun k => ⟨[(1, I ((N + 1 : Nat) : Int)), (5, .pv (.v (.bool true))), (7, S (str x)), (8, S (str (callX x k.1))), (9, I ((k.1 + 1 : Nat) : Int))], [], [], []⟩) (fun k => N - k.1) ⟨0, by omega⟩ ?_ ?_
  · apply lw_of <;> simp [leL, lk, sv, Nat.beq, I, S, ES.kill, has, drp, nilT, callX]
  rintro ⟨k, hk⟩
  by_cases hlt : k < N
  · have d1 : ((k + 1 : Nat) : Int) < ((N + 1 : Nat) : Int) := by omega
    have w1 : IntKind.i64.wrap (((k + 1 : Nat) : Int) + 1) = ((k + 1 + 1 : Nat) : Int) := by rw [wrap64 (by omega) (by omega)]; omega
    have hla := callX_len x k
    simp only [vcA, seval, vV, d1, q2, w1]
    refine ⟨by omega, loopK_of ⟨k + 1, by omega⟩ (by show N - (k + 1) < N - k; omega) ?_⟩
    apply lw_of <;> simp [leL, lk, sv, Nat.beq, I, S, ES.kill, has, drp, nilT]
    rfl
  · have d1 : ¬ ((k + 1 : Nat) : Int) < ((N + 1 : Nat) : Int) := by omega
    obtain rfl : k = N := by omega
    simp only [vcA, seval, vV, d1]
    (with_reducible apply v_call); (· simp only [vcA, seval, vV]; with_reducible rfl); (· rfl); (· exact B1); (· first | rfl | (simp only [vcA, seval]; omega)); (· simp only [vcA, seval, vV]; with_reducible rfl)
    simp only [vcA, seval, vV, q3]
    unfold parT callR at P0
    by_cases h1 : ((k + 1 : Nat) : Int) = takesV x
    · rw [if_pos h1] at P0
      simp only [if_true] at P0
      refine ⟨by omega, ?_⟩
      (with_reducible apply v_call); (· simp only [vcA, seval, vV]; with_reducible rfl); (· rfl); (· exact P0); (· first | rfl | (simp only [vcA, seval]; omega)); (· simp only [vcA, seval, vV]; with_reducible rfl)
      simp only [vcA, seval, vV, h1]
      rw [List.length_replicate, decide_eq_true h1]
    · rw [if_neg h1] at P0
      have hz : zeroE = [I 0, I 0, S ⟨#[]⟩, .pv (.v (.slice none 0 0))] := rfl
      by_cases h2 : takesV x < ((k + 1 : Nat) : Int)
      · rw [if_pos h2] at P0
        simp only [Int.reduceEq, if_false] at P0
        rw [hz] at P0
        refine ⟨by omega, ?_⟩
        (with_reducible apply v_call); (· simp only [vcA, seval, vV]; with_reducible rfl); (· rfl); (· exact P0); (· first | rfl | (simp only [vcA, seval]; omega)); (· simp only [vcA, seval, vV]; with_reducible rfl)
        have w2 : IntKind.i64.wrap (2 * takesV x) = 2 * takesV x := wrap64 (by omega) (by omega)
        have w3 : IntKind.i64.wrap ((x.length : Int) + 2 * takesV x) = (x.length : Int) + 2 * takesV x := wrap64 (by omega) (by omega)
        simp only [vcA, seval, vV, h1, h2]
        rw [w2, w3, decide_eq_true rfl]
      · rw [if_neg h2] at P0
        simp only [Int.reduceEq, if_false] at P0
        rw [hz] at P0
        refine ⟨by omega, ?_⟩
        (with_reducible apply v_call); (· simp only [vcA, seval, vV]; with_reducible rfl); (· rfl); (· exact P0); (· first | rfl | (simp only [vcA, seval]; omega)); (· simp only [vcA, seval, vV]; with_reducible rfl)
        simp only [vcA, seval, vV, h1, h2]
end Go.Proofs.YtmiokadmddjccaaDoor
end
