/- Merged texts: Zt2 Zr1 Sy11 Zy2 Zy1 Sv1 Zy4 Zy5 Zy6 Zr2 Zr3 Pz3 Pz4 Zy7 Zr4 Zy8 Zr5 Pz5 Pz6 Zt3 PRead Aw1 Zk1 Zw1 Zw2 Zt4 Zt5 Zy3 Pz1 Zo0 Pz2 Zl3. No statement of the program is proved here. -/
import Derived.Test.YthjphllpkcnehaaGreatDoorM4
import Derived.Lib.ItoaNum
import Derived.Lib.Replace
import Derived.Lib.ItoaLen
import Derived.Lib.ItoaMem
set_option linter.unusedSimpArgs false
set_option linter.unusedVariables false
section
/- The document's answers for values, walked: Right of lists, RightType, Fits, Zero; references, both ways. No statement of the program is proved here. -/
namespace Go.Proofs.YthjphllpkcnehaaGreatDoor
open Go Go.RowKit Go.Mor Go.Sh Go.Sh.Cd1 Go.Sh.Cd2
set_option maxRecDepth 100000
set_option maxHeartbeats 4000000
theorem refRight_ok (g : Sh.Glob) (x : V) (hx : VOk x) : SCalls Tryz.prog g 29 [tv x] [] (B (rightV x)) [] := by
  unfold rightV
  by_cases k5 : x.k = 5
  · rw [if_pos k5]
    obtain ⟨k, n, s, l⟩ := x
    simp only [Vk] at k5
    subst k5
    have hxl : ∀ y ∈ l, TextsOk y := fun y hy => hx.2 y hy
    clear hx
    simp only [Vn, Vs, Vl]
    have hn0 : (n == 0) = decide (n = 0) := by rw [Bool.eq_iff_iff]; simp
    rw [hn0]
    refine call_of0 hmix tf_moraineref03_Right rfl ?_
    unfold B
    by_cases n0 : n = 0
    · subst n0
      cases hs : s == []
      · simp only [vcA, seval, vV, e0, hs]
      · by_cases h12 : l.length ≤ 12
        · have d1 : ¬ (12 : Int) < (l.length : Int) := by omega
          simp only [vcA, seval, vV, e0, hs, d1, h12]
          refine v_loop (σ := {i : Nat // i ≤ l.length ∧ ∀ j y, j < i → l[j]? = some y → noItem y = false}) (fun i => ⟨[(1, .ptr 1 0), (4, I (i.1 : Int))], [(1, [I 5, I 0, S (str s), .pv (.sl 4 (V.rows l))])], [], []⟩) (fun i => l.length - i.1) ⟨0, Nat.zero_le _, fun j y hj => by omega⟩ ?_ ?_
          · apply lw_of <;> simp [leL, lk, sv, Nat.beq, I, S, ES.kill, has, drp, nilT]
          rintro ⟨i, hi, hno⟩
          by_cases hlt : i < l.length
          · have d2 : (i : Int) < (l.length : Int) := by omega
            obtain ⟨y, ey⟩ : ∃ y, l[i]? = some y := ⟨_, List.getElem?_eq_getElem hlt⟩
            have hm := List.mem_of_getElem? ey
            have hany : noItem y = true → l.any noItem = true := fun h => List.any_eq_true.2 ⟨y, hm, h⟩
            by_cases y5 : y.k = 5
            · have hno' : noItem y = true := by simp [noItem, y5]
              simp only [vcA, seval, vV, d2, ey, y5]
              rw [hany hno']; rfl
            · have HR := refRight1_ok g y (hxl y hm) y5
              have w1 : IntKind.i64.wrap ((i : Int) + 1) = ((i + 1 : Nat) : Int) := by rw [wrap64 (by omega) (by omega)]; omega
              have hy5 : (y.k == 5) = false := by simpa using y5
              unfold B at HR
              simp only [vcA, seval, vV, d2, ey, y5]
              (with_reducible apply v_call); (· simp only [vcA, seval, vV]; with_reducible rfl); (· exact HR); (· first | rfl | (simp only [vcA, seval]; omega)); (· simp only [vcA, seval, vV]; with_reducible rfl)
              cases hr : right1 y
              · simp only [vcA, seval, vV]
                rw [hany (by simp [noItem, hr])]; rfl
              · simp only [vcA, seval, vV, w1]
                refine loopK_of ⟨i + 1, by omega, fun j z hj hz => ?_⟩ (by show l.length - (i + 1) < l.length - i; omega) ?_
                · by_cases hji : j = i
                  · subst hji; rw [ey] at hz; cases hz; simp [noItem, hy5, hr]
                  · exact hno j z (by omega) hz
                · apply lw_of <;> simp [leL, lk, sv, Nat.beq, I, S, ES.kill, has, drp, nilT]
          · have d2 : ¬ (i : Int) < (l.length : Int) := by omega
            have hall : l.any noItem = false := by
              rw [← Bool.not_eq_true, List.any_eq_true]
              rintro ⟨y, hy, hp⟩
              obtain ⟨j, hj⟩ := List.getElem?_of_mem hy
              rw [hno j y (by have := (List.getElem?_eq_some_iff.1 hj).1; omega) hj] at hp; cases hp
            simp only [vcA, seval, vV, d2]
            rw [hall]; rfl
        · have d1 : (12 : Int) < (l.length : Int) := by omega
          simp only [vcA, seval, vV, e0, hs, d1, h12]
    · simp only [vcA, seval, vV, n0]
  · rw [if_neg k5]
    exact refRight1_ok g x hx.1 k5
theorem refPlain_ok (g : Sh.Glob) (k : Int) : SCalls Tryz.prog g 125 [I k] [] (B (decide (1 ≤ k) && decide (k ≤ 4))) [] := by
  refine call_of0 hmix tf_moraineref03_plain rfl ?_
  unfold B
  by_cases q1 : 1 ≤ k <;> by_cases q2 : k ≤ 4 <;> simp only [vcA, seval, vV, q1, q2]
theorem refRightType_ok (g : Sh.Glob) (t : Ty) : SCalls Tryz.prog g 77 [tyT t] [] (B (rightType t)) [] := by
  refine call_of0 hmix tf_moraineref03_RightType rfl ?_
  obtain ⟨k, o⟩ := t
  have H1 := refPlain_ok g k
  have H2 := refPlain_ok g o
  unfold B at *
  by_cases k5 : k = 5
  · subst k5
    have e : rightType ⟨5, o⟩ = (decide (1 ≤ o) && decide (o ≤ 4)) := by unfold rightType; rw [if_pos rfl]; simp
    rw [e]
    simp only [vcA, seval, vV]
    (with_reducible apply v_call); (· simp only [vcA, seval, vV]; with_reducible rfl); (· exact H2); (· first | rfl | (simp only [vcA, seval]; omega)); (· simp only [vcA, seval, vV]; with_reducible rfl)
    simp only [vcA, seval, vV]
  · have e : rightType ⟨k, o⟩ = ((decide (1 ≤ k) && decide (k ≤ 4)) && decide (o = 0)) := by unfold rightType; rw [if_neg k5]; rw [Bool.eq_iff_iff]; simp; omega
    rw [e]
    generalize (decide (1 ≤ k) && decide (k ≤ 4)) = p at *
    simp only [vcA, seval, vV, k5]
    (with_reducible apply v_call); (· simp only [vcA, seval, vV]; with_reducible rfl); (· exact H1); (· first | rfl | (simp only [vcA, seval]; omega)); (· simp only [vcA, seval, vV]; with_reducible rfl)
    cases p <;> simp only [vcA, seval, vV]
theorem refKind_ok (g : Sh.Glob) (x : V) (k : Int) : SCalls Tryz.prog g 78 [tv x, I k] [] (B (ofKind x k)) [] := by
  refine call_of0 hmix tf_moraineref03_kind rfl ?_
  unfold B
  simp only [vcA, seval, vV]
  unfold ofKind
  repeat' (first | (apply And.intro) | (intro _))
  all_goals (first | (simp_all; done) | (simp only [Option.some.injEq, TV.pv.injEq, PV.v.injEq, Value.bool.injEq]; rw [Bool.eq_iff_iff]; simp_all; done) | (simp only [Option.some.injEq, TV.pv.injEq, PV.v.injEq, Value.bool.injEq]; rw [Bool.eq_iff_iff]; simp_all; omega))
theorem refFits_ok (g : Sh.Glob) (x : V) (t : Ty) (hx : VOk x) (hl : x.l.length ≤ maxLen) : SCalls Tryz.prog g 37 [tv x, tyT t] [] (B (fitsV x t)) [] := by
  refine call_of0 hmix tf_moraineref03_Fits rfl ?_
  have HR := refRight_ok g x hx
  have HT := refRightType_ok g t
  have HK := refKind_ok g x t.k
  have hm : maxLen = 9223372036854775807 := rfl
  unfold fitsV B at *
  simp only [vcA, seval, vV]
  (with_reducible apply v_call); (· simp only [vcA, seval, vV]; with_reducible rfl); (· exact HR); (· first | rfl | (simp only [vcA, seval]; omega)); (· simp only [vcA, seval, vV]; with_reducible rfl)
  simp only [vcA, seval, vV]
  (with_reducible apply v_call); (· simp only [vcA, seval, vV]; with_reducible rfl); (· exact HT); (· first | rfl | (simp only [vcA, seval]; omega)); (· simp only [vcA, seval, vV]; with_reducible rfl)
  cases rightV x
  · simp only [vcA, seval, vV]
  cases rightType t
  · simp only [vcA, seval, vV]
  simp only [vcA, seval, vV]
  (with_reducible apply v_call); (· simp only [vcA, seval, vV]; with_reducible rfl); (· exact HK); (· first | rfl | (simp only [vcA, seval]; omega)); (· simp only [vcA, seval, vV]; with_reducible rfl)
  cases ofKind x t.k
  · simp only [vcA, seval, vV]
  simp only [vcA, seval, vV]
  refine v_loop (σ := {i : Nat // i ≤ x.l.length ∧ ∀ j y, j < i → x.l[j]? = some y → (!ofKind y t.o) = false}) (fun i => ⟨[(2, .ptr 2 0), (3, .ptr 3 0), (7, I (i.1 : Int))], [(2, [I x.k, I x.n, S (str x.s), .pv (.sl 4 (V.rows x.l))]), (3, [I t.k, I t.o])], [], []⟩) (fun i => x.l.length - i.1) ⟨0, Nat.zero_le _, fun j y hj => by omega⟩ ?_ ?_
  · apply lw_of <;> simp [leL, lk, sv, Nat.beq, I, S, ES.kill, has, drp, nilT]
  rintro ⟨i, hi, hno⟩
  by_cases hlt : i < x.l.length
  · have d2 : (i : Int) < (x.l.length : Int) := by omega
    obtain ⟨y, ey⟩ : ∃ y, x.l[i]? = some y := ⟨_, List.getElem?_eq_getElem hlt⟩
    have HO := refKind_ok g y t.o
    have w1 : IntKind.i64.wrap ((i : Int) + 1) = ((i + 1 : Nat) : Int) := by rw [wrap64 (by omega) (by omega)]; omega
    unfold B tv at HO
    simp only [vcA, seval, vV, d2, ey]
    (with_reducible apply v_call); (· simp only [vcA, seval, vV]; with_reducible rfl); (· exact HO); (· first | rfl | (simp only [vcA, seval]; omega)); (· simp only [vcA, seval, vV]; with_reducible rfl)
    cases hp : ofKind y t.o
    · simp only [vcA, seval, vV]
      have : x.l.any (fun y => !ofKind y t.o) = true := List.any_eq_true.2 ⟨y, List.mem_of_getElem? ey, by simp [hp]⟩
      rw [this]; rfl
    · simp only [vcA, seval, vV, w1]
      refine loopK_of ⟨i + 1, by omega, fun j z hj hz => ?_⟩ (by show x.l.length - (i + 1) < x.l.length - i; omega) ?_
      · by_cases hji : j = i
        · subst hji; rw [ey] at hz; cases hz; simp [hp]
        · exact hno j z (by omega) hz
      · apply lw_of <;> simp [leL, lk, sv, Nat.beq, I, S, ES.kill, has, drp, nilT]
  · have d2 : ¬ (i : Int) < (x.l.length : Int) := by omega
    have hall : x.l.any (fun y => !ofKind y t.o) = false := by
      rw [← Bool.not_eq_true, List.any_eq_true]
      rintro ⟨y, hy, hp⟩
      obtain ⟨j, hj⟩ := List.getElem?_of_mem hy
      rw [hno j y (by have := (List.getElem?_eq_some_iff.1 hj).1; omega) hj] at hp; cases hp
    simp only [vcA, seval, vV, d2]
    rw [hall]; rfl
theorem refZero_ok (g : Sh.Glob) (t : Ty) : SCalls Tryz.prog g 39 [tyT t] [] (nv (zeroV t)) [] := by
  refine call_of0 hmix tf_moraineref03_Zero rfl ?_
  have HR := refRightType_ok g t
  unfold B at HR
  obtain ⟨k, o⟩ := t
  have hk := fun h : rightType ⟨k, o⟩ = true => ty_cases h
  generalize hr : rightType ⟨k, o⟩ = r at HR hk
  have key : zeroV ⟨k, o⟩ = if !r || k == 3 || k == 4 then V.nil else .mk k 0 [] [] := by rw [← hr]; rfl
  rw [key]
  simp only [vcA, seval, vV]
  (with_reducible apply v_call); (· simp only [vcA, seval, vV]; with_reducible rfl); (· exact HR); (· first | rfl | (simp only [vcA, seval]; omega)); (· simp only [vcA, seval, vV]; with_reducible rfl)
  cases r
  · simp only [vcA, seval, vV]
    rfl
  · have hk := hk rfl
    simp only [] at hk
    simp only [vcA, seval, vV]
    repeat' (first | (apply And.intro) | (intro _))
    all_goals (first | (simp_all [V.nil, V.k, V.n, V.s, e0]; done) | (have h34 : k = 3 ∨ k = 4 := by omega
                                                                      rcases h34 with rfl | rfl <;> rfl) | rfl)
end Go.Proofs.YthjphllpkcnehaaGreatDoor
end

section
/- Reading numbers: the program's way. No statement of the program is proved here. -/
namespace Go.Proofs.YthjphllpkcnehaaGreatDoor
open Go Go.RowKit Go.Mor Go.Sh Go.Sh.Cd1
set_option maxRecDepth 100000
set_option maxHeartbeats 4000000
/-- The first sign of a text, 0 of none. -/
def firstR (l : List UInt8) : Int := if l = [] then 0 else (Lib.decodeGo (str l)).1
theorem decodeRune_ok (a0 a1 : Addr) (m : Nat) (b : ByteArray) : SCalls Tryz.prog (gl a0 a1 m) 149 [S b] [] (.tuple [.pv (.v (.int .i32 (Lib.decodeGo b).1)), I (Lib.decodeGo b).2]) [] :=
  sc_up (prim0_sound m _ _ _ _ _ (by simp [prim0, S, I, Nat.beq]))
theorem first_ok (a0 a1 : Addr) (m : Nat) (l : List UInt8) : SCalls Tryz.prog (gl a0 a1 m) 105 [S (str l)] [] (.pv (.v (.int .i32 (firstR l)))) [] := by
  refine call_of0 hmix tf_val_first rfl ?_
  have HD := decodeRune_ok a0 a1 m (str l)
  have e0 : (⟨#[]⟩ : ByteArray) = str [] := rfl
  unfold firstR
  cases l with
  | nil =>
    simp only [vcA, seval, I, S, e0]
  | cons b r =>
    have hn : ((b :: r) == ([] : List UInt8)) = false := rfl
    simp only [vcA, seval, I, S, e0, hn]
    (with_reducible apply v_call); (· simp only [vcA, seval, I, S]; with_reducible rfl); (· exact HD); (· first | rfl | (simp only [vcA, seval]; omega)); (· simp only [vcA, seval, I, S]; with_reducible rfl)
    simp only [vcA, seval, I, S]
def numGo (neg : Bool) (lo hi : Int) : List UInt8 → Int → Int → Nat → Nat → Int × Nat
  | [], _, best, size, _ => (best, size)
  | c :: r, n, best, size, k =>
    if c.toNat < 48 ∨ 57 < c.toNat then (best, size)
    else if 1000000000000000 < 10 * n + (c.toNat - 48 : Int) ∨ (neg = true ∧ 10 * n + (c.toNat - 48 : Int) = 0) then (best, size)
    else if lo ≤ (if neg then -(10 * n + (c.toNat - 48 : Int)) else 10 * n + (c.toNat - 48 : Int)) ∧ (if neg then -(10 * n + (c.toNat - 48 : Int)) else 10 * n + (c.toNat - 48 : Int)) ≤ hi then
      (if 10 * n + (c.toNat - 48 : Int) = 0 then ((if neg then -(10 * n + (c.toNat - 48 : Int)) else 10 * n + (c.toNat - 48 : Int)), k + 1) else numGo neg lo hi r (10 * n + (c.toNat - 48 : Int)) (if neg then -(10 * n + (c.toNat - 48 : Int)) else 10 * n + (c.toNat - 48 : Int)) (k + 1) (k + 1))
    else (if 10 * n + (c.toNat - 48 : Int) = 0 then (best, size) else numGo neg lo hi r (10 * n + (c.toNat - 48 : Int)) best size (k + 1))
def numV (lo hi : Int) (l : List UInt8) : Int × Nat := if firstR l = 45 then numGo true lo hi (l.drop 1) 0 0 0 1 else numGo false lo hi l 0 0 0 0
def numSt (l : List UInt8) (lo hi : Int) (neg : Bool) (q : Int × Int × Nat × Nat) : ES :=
  ⟨[(0, S (str l)), (1, I lo), (2, I hi), (8, I q.1), (9, I q.2.1), (10, I (q.2.2.1 : Int)), (11, I (q.2.2.2 : Int)), (12, I (if neg then 1 else 0))], [], [], []⟩
theorem numLoop (g : Sh.Glob) (l : List UInt8) (lo hi : Int) (neg : Bool) (hl : l.length < 9223372036854775807) (R : Int × Nat) (k0 : Nat) (hR : R = numGo neg lo hi (l.drop k0) 0 0 0 k0) :
    swp Tryz.prog g (.loop c_val_number_15) (blockW 0 (thenW (swp Tryz.prog g (.seq c_val_number_16 .ret) (Post0 [.tmp 6, .tmp 7] (.tuple [I R.1, I (R.2 : Int)]))) (Post0 [.tmp 6, .tmp 7] (.tuple [I R.1, I (R.2 : Int)])))) (numSt l lo hi neg (0, 0, 0, k0)) := by
  refine v_loop (σ := { q : Int × Int × Nat × Nat // 0 ≤ q.1 ∧ q.1 ≤ 1000000000000000 ∧ R = numGo neg lo hi (l.drop q.2.2.2) q.1 q.2.1 q.2.2.1 q.2.2.2 })
    (fun q => numSt l lo hi neg q.1) (fun q => l.length - q.1.2.2.2) ⟨(0, 0, 0, k0), Int.le_refl 0, by show (0 : Int) ≤ 1000000000000000; decide, hR⟩ (lw_eq rfl) ?_
  rintro ⟨⟨n, best, size, k⟩, h0, h1, hd⟩
  simp only at h0 h1 hd
  unfold numSt
  by_cases hk : k < l.length
  · have d1 : (k : Int) < (l.length : Int) := by omega
    obtain ⟨c, ec⟩ : ∃ c, l[k]? = some c := ⟨_, List.getElem?_eq_getElem hk⟩
    have hcons : l.drop k = c :: l.drop (k + 1) := by
      rw [List.drop_eq_getElem_cons hk]; congr 1
      rw [List.getElem?_eq_getElem hk] at ec; exact Option.some.inj ec
    rw [hcons, numGo] at hd
    have hc := c.toNat_lt
    by_cases hdig : c.toNat < 48 ∨ 57 < c.toNat
    · rw [if_pos hdig] at hd
      by_cases q1 : c.toNat < 48
      · have d2 : ¬ (48 : Int) ≤ (c.toNat : Int) := by omega
        simp only [vcA, seval, I, S, d1, d2, ec]
        rw [hd]
      · have d2 : (48 : Int) ≤ (c.toNat : Int) := by omega
        have d3 : ¬ (c.toNat : Int) ≤ 57 := by omega
        simp only [vcA, seval, I, S, d1, d2, d3, ec]
        rw [hd]
    · rw [if_neg hdig] at hd
      have d2 : (48 : Int) ≤ (c.toNat : Int) := by omega
      have d3 : (c.toNat : Int) ≤ 57 := by omega
      have u1 : IntKind.u8.wrap ((c.toNat : Int) - 48) = (c.toNat : Int) - 48 := by rw [IntKind.wrap_u8]; omega
      have u2 : IntKind.i64.wrap ((c.toNat : Int) - 48) = (c.toNat : Int) - 48 := wrap64 (by omega) (by omega)
      have u3 : IntKind.i64.wrap (10 * n) = 10 * n := wrap64 (by omega) (by omega)
      have u4 : IntKind.i64.wrap (10 * n + ((c.toNat : Int) - 48)) = 10 * n + ((c.toNat : Int) - 48) := wrap64 (by omega) (by omega)
      obtain ⟨x, hx⟩ : ∃ x, x = 10 * n + ((c.toNat : Int) - 48) := ⟨_, rfl⟩
      have hx0 : 0 ≤ x := by omega
      have hx1 : x ≤ 10000000000000009 := by omega
      rw [← hx] at hd u4
      rw [hx] at u4
      have w1 : IntKind.i64.wrap ((k : Int) + 1) = ((k + 1 : Nat) : Int) := by rw [wrap64 (by omega) (by omega)]; omega
      have w2 : IntKind.i64.wrap (0 - x) = -x := by rw [wrap64 (by omega) (by omega)]; omega
      rw [hx] at w2
      cases neg
      · simp only [Bool.false_eq_true, if_false, false_and, or_false] at hd
        simp only [vcA, seval, I, S, d1, d2, d3, ec, u1, u2, u3, u4, w1]
        rw [← hx]
        repeat' (first | (apply And.intro) | (intro _))
        all_goals first
          | (rw [hd]; (repeat' split) <;> first | rfl | (exfalso; omega))
          | (refine loopK_of ⟨(x, x, k + 1, k + 1), hx0, ?_, ?_⟩ ?_ ?_; (· show x ≤ 1000000000000000; omega); (· rw [hd]; (repeat' split) <;> first | rfl | (exfalso; omega)); (· show l.length - (k + 1) < l.length - k; omega); (· apply lw_of <;> simp [leL, lk, sv, Nat.beq, I, S, ES.kill, has, drp, nilT]))
          | (refine loopK_of ⟨(x, best, size, k + 1), hx0, ?_, ?_⟩ ?_ ?_; (· show x ≤ 1000000000000000; omega); (· rw [hd]; (repeat' split) <;> first | rfl | (exfalso; omega)); (· show l.length - (k + 1) < l.length - k; omega); (· apply lw_of <;> simp [leL, lk, sv, Nat.beq, I, S, ES.kill, has, drp, nilT]))
      · simp only [if_true, true_and] at hd
        simp only [vcA, seval, I, S, d1, d2, d3, ec, u1, u2, u3, u4, w1, w2]
        rw [← hx]
        repeat' (first | (apply And.intro) | (intro _))
        all_goals first
          | (rw [hd]; (repeat' split) <;> first | rfl | (exfalso; omega))
          | (refine loopK_of ⟨(x, -x, k + 1, k + 1), hx0, ?_, ?_⟩ ?_ ?_; (· show x ≤ 1000000000000000; omega); (· rw [hd]; (repeat' split) <;> first | rfl | (exfalso; omega)); (· show l.length - (k + 1) < l.length - k; omega); (· apply lw_of <;> simp [leL, lk, sv, Nat.beq, I, S, ES.kill, has, drp, nilT]))
          | (refine loopK_of ⟨(x, best, size, k + 1), hx0, ?_, ?_⟩ ?_ ?_; (· show x ≤ 1000000000000000; omega); (· rw [hd]; (repeat' split) <;> first | rfl | (exfalso; omega)); (· show l.length - (k + 1) < l.length - k; omega); (· apply lw_of <;> simp [leL, lk, sv, Nat.beq, I, S, ES.kill, has, drp, nilT]))
  · have d1 : ¬ (k : Int) < (l.length : Int) := by omega
    rw [List.drop_eq_nil_of_le (by omega), numGo] at hd
    simp only [vcA, seval, I, S, d1]
    rw [hd]
theorem vnumber_ok (a0 a1 : Addr) (m : Nat) (l : List UInt8) (lo hi : Int) (hl : l.length < 9223372036854775807) : SCalls Tryz.prog (gl a0 a1 m) 108 [S (str l), I lo, I hi] [] (.tuple [I (numV lo hi l).1, I ((numV lo hi l).2 : Int)]) [] := by
  refine call_of0 hmix tf_val_number rfl ?_
  have HF := first_ok a0 a1 m l
  unfold numV
  by_cases h : firstR l = 45
  · have HL := numLoop (gl a0 a1 m) l lo hi true hl _ 1 rfl
    unfold numSt at HL
    rw [if_pos h]
    simp only [vcA, seval, I, S]
    (with_reducible apply v_call); (· simp only [vcA, seval, I, S]; with_reducible rfl); (· exact HF); (· first | rfl | (simp only [vcA, seval]; omega)); (· simp only [vcA, seval, I, S]; with_reducible rfl)
    simp only [vcA, seval, I, S, h]
    exact HL
  · have HL := numLoop (gl a0 a1 m) l lo hi false hl _ 0 rfl
    unfold numSt at HL
    rw [if_neg h]
    simp only [vcA, seval, I, S]
    (with_reducible apply v_call); (· simp only [vcA, seval, I, S]; with_reducible rfl); (· exact HF); (· first | rfl | (simp only [vcA, seval]; omega)); (· simp only [vcA, seval, I, S]; with_reducible rfl)
    simp only [vcA, seval, I, S, h]
    exact HL
end Go.Proofs.YthjphllpkcnehaaGreatDoor
end

section
/- The statements' ValOf. No statement of the program is proved here. -/
namespace Go.Proofs.YthjphllpkcnehaaGreatDoor
open Go Go.RowKit Go.Mor Go.Sh Go.Sh.Cd1
set_option maxRecDepth 100000
set_option maxHeartbeats 8000000
def oneL (l : List R1) : List V := (l.take 12).map fun r => valOne (pickI r.k 5) r.n r.s
def valOf (x : RawV) : V :=
  if pickI x.k 7 < 5 then
    if 3 ≤ (valOne (pickI x.k 7) x.n x.s).k ∧ pickI (x.k.tdiv 7) 4 = 0 then .mk (valOne (pickI x.k 7) x.n x.s).k (-1 - pickI x.n 20) (valOne (pickI x.k 7) x.n x.s).s [] else valOne (pickI x.k 7) x.n x.s
  else .mk 5 0 [] (oneL x.l)
theorem tdiv64 {c : Int} (h : I64 c) : I64 (c.tdiv 7) := by
  have h1 := Int.natAbs_tdiv c 7
  have h2 : c.natAbs / 7 ≤ c.natAbs := Nat.div_le_self _ _
  have h3 : (c.tdiv 7).natAbs ≤ c.natAbs / 7 := by rw [h1]; exact Nat.le_refl _
  unfold I64 at *
  omega
theorem valOf_small (g : Sh.Glob) (x : RawV) (hx : x.ok) (hk5 : pickI x.k 7 < 5) : SCalls Tryz.prog g 16 [x.tv] [] (nv (valOf x)) [] := by
  refine call_of0 hmix tf_morainelaw03_ValOf rfl ?_
  obtain ⟨hk, hn, hs, hl, hlen⟩ := hx
  have hV := valOne_ok g (pickI x.k 7) 0 x.n x.s hn hs
  unfold valOf RawV.tv
  rw [if_pos hk5]
  have d5 := decide_T hk5
  have hP := pickI_ok g x.k 7 hk (by decide)
  generalize pickI x.k 7 = k at hV hk5 d5 hP ⊢
  obtain ⟨v, hv⟩ : ∃ v, v = valOne k x.n x.s := ⟨_, rfl⟩
  have hvl : v.l = [] := by rw [hv]; exact valOne_l _ _ _
  rw [← hv] at hV ⊢
  unfold nv at hV
  have ht := tdiv64 hk
  have wq : IntKind.i64.wrap (x.k.tdiv 7) = x.k.tdiv 7 := wrap64 ht.1 ht.2
  have hp20 := pickI_lt (n := 20) (by decide) hn
  have w20 : IntKind.i64.wrap (-1 - pickI x.n 20) = -1 - pickI x.n 20 := wrap64 (by omega) (by omega)
  simp only [vcA, seval, I, S]
  (with_reducible apply v_call); (· simp only [vcA, seval, I, S]; with_reducible rfl); (· exact hP); (· first | rfl | (simp only [vcA, seval]; omega)); (· simp only [vcA, seval, I, S]; with_reducible rfl)
  simp only [vcA, seval, I, S, hk5]
  (with_reducible apply v_call); (· simp only [vcA, seval, I, S]; with_reducible rfl); (· exact hV); (· first | rfl | (simp only [vcA, seval]; omega)); (· simp only [vcA, seval, I, S]; with_reducible rfl)
  simp only [vcA, seval, I, S, wq]
  refine ⟨fun h3 => ?_, fun h3 => by rw [if_neg (fun h => h3 h.1)]; rfl⟩
  (with_reducible apply v_call); (· simp only [vcA, seval, I, S]; with_reducible rfl); (· exact pickI_ok g (x.k.tdiv 7) 4 ht (by decide)); (· first | rfl | (simp only [vcA, seval]; omega)); (· simp only [vcA, seval, I, S]; with_reducible rfl)
  simp only [vcA, seval, I, S]
  refine ⟨fun hz => ?_, fun hz => by rw [if_neg (fun h => hz h.2)]; rfl⟩
  rw [if_pos ⟨h3, hz⟩]
  (with_reducible apply v_call); (· simp only [vcA, seval, I, S]; with_reducible rfl); (· exact pickI_ok g x.n 20 hn (by decide)); (· first | rfl | (simp only [vcA, seval]; omega)); (· simp only [vcA, seval, I, S]; with_reducible rfl)
  simp only [vcA, seval, I, S, w20]
  rfl
end Go.Proofs.YthjphllpkcnehaaGreatDoor
end

section
/- Comparing values: the program's way, the document's way. No statement of the program is proved here. -/
namespace Go.Proofs.YthjphllpkcnehaaGreatDoor
open Go Go.RowKit Go.Mor Go.Sh Go.Sh.Cd1
set_option maxRecDepth 100000
set_option maxHeartbeats 2000000
def thenI (c d : Int) : Int := if c = 0 then d else c
def ordS (a b : List UInt8) : Int := if Op.bytesLess a b then -1 else if a = b then 0 else 1
mutual
def cmpV : V → V → Int
  | .mk k n s l, y => thenI (ordI k y.k) (thenI (ordI n y.n) (thenI (ordS s y.s) (cmpL l y.l)))
def cmpL : List V → List V → Int
  | [], [] => 0
  | [], _ :: _ => -1
  | _ :: _, [] => 1
  | x :: l, y :: l' => thenI (cmpV x y) (cmpL l l')
end
theorem cmpV_eq (x y : V) : cmpV x y = thenI (ordI x.k y.k) (thenI (ordI x.n y.n) (thenI (ordS x.s y.s) (cmpL x.l y.l))) := by
  cases x; simp only [cmpV, V.k, V.n, V.s, V.l]
theorem cmpL_drop {l l' : List V} {i : Nat} {x y : V} (hx : l[i]? = some x) (hy : l'[i]? = some y) : cmpL (l.drop i) (l'.drop i) = thenI (cmpV x y) (cmpL (l.drop (i + 1)) (l'.drop (i + 1))) := by
  obtain ⟨h1, rfl⟩ := List.getElem?_eq_some_iff.1 hx
  obtain ⟨h2, rfl⟩ := List.getElem?_eq_some_iff.1 hy
  rw [List.drop_eq_getElem_cons h1, List.drop_eq_getElem_cons h2, cmpL]
theorem cmpL_end {l l' : List V} {i : Nat} (h : i = min l.length l'.length) : cmpL (l.drop i) (l'.drop i) = ordI l.length l'.length := by
  unfold ordI
  rcases Nat.lt_trichotomy l.length l'.length with h1 | h1 | h1
  · rw [List.drop_eq_nil_of_le (by omega : l.length ≤ i)]
    obtain ⟨y, r, hy⟩ : ∃ y r, l'.drop i = y :: r := ⟨_, _, List.drop_eq_getElem_cons (by omega)⟩
    rw [hy, cmpL, if_pos (by omega)]
  · rw [List.drop_eq_nil_of_le (by omega : l.length ≤ i), List.drop_eq_nil_of_le (by omega : l'.length ≤ i), cmpL, if_neg (by omega), if_neg (by omega)]
  · rw [List.drop_eq_nil_of_le (by omega : l'.length ≤ i)]
    obtain ⟨y, r, hy⟩ : ∃ y r, l.drop i = y :: r := ⟨_, _, List.drop_eq_getElem_cons (by omega)⟩
    rw [hy, cmpL, if_neg (by omega), if_pos (by omega)]
theorem nanI_ok (g : Sh.Glob) (a : Int) : SCalls Tryz.prog g 123 [I a] [] (.pv (.v (.bool false))) [] := by
  refine call_of0 hmix tf_cmp_isNaN_int_ rfl ?_
  simp only [vcA, seval, vV]
theorem nanS_ok (g : Sh.Glob) (a : ByteArray) : SCalls Tryz.prog g 124 [S a] [] (.pv (.v (.bool false))) [] := by
  refine call_of0 hmix tf_cmp_isNaN_string_ rfl ?_
  simp only [vcA, seval, vV]
theorem cmpI_ok (g : Sh.Glob) (a b : Int) : SCalls Tryz.prog g 70 [I a, I b] [] (I (ordI a b)) [] := by
  refine call_of0 hmix tf_cmp_Compare_int_ rfl ?_
  simp only [vcA, seval, vV]
  (with_reducible apply v_call); (· simp only [vcA, seval, vV]; with_reducible rfl); (· exact nanI_ok g _); (· first | rfl | (simp only [vcA, seval]; omega)); (· simp only [vcA, seval, vV]; with_reducible rfl)
  simp only [vcA, seval, vV]
  (with_reducible apply v_call); (· simp only [vcA, seval, vV]; with_reducible rfl); (· exact nanI_ok g _); (· first | rfl | (simp only [vcA, seval]; omega)); (· simp only [vcA, seval, vV]; with_reducible rfl)
  simp only [vcA, seval, vV]
  unfold ordI
  refine ⟨fun h => by rw [if_pos h], fun h => ⟨fun h' => by rw [if_neg h, if_pos h'], fun h' => by rw [if_neg h, if_neg h']⟩⟩
theorem cmpS_ok (g : Sh.Glob) (a b : List UInt8) : SCalls Tryz.prog g 71 [S (str a), S (str b)] [] (I (ordS a b)) [] := by
  refine call_of0 hmix tf_cmp_Compare_string_ rfl ?_
  simp only [vcA, seval, vV]
  (with_reducible apply v_call); (· simp only [vcA, seval, vV]; with_reducible rfl); (· exact nanS_ok g _); (· first | rfl | (simp only [vcA, seval]; omega)); (· simp only [vcA, seval, vV]; with_reducible rfl)
  simp only [vcA, seval, vV]
  (with_reducible apply v_call); (· simp only [vcA, seval, vV]; with_reducible rfl); (· exact nanS_ok g _); (· first | rfl | (simp only [vcA, seval]; omega)); (· simp only [vcA, seval, vV]; with_reducible rfl)
  simp only [vcA, seval, vV]
  unfold ordS
  cases hb : Op.bytesLess a b
  · by_cases he : a = b
    · subst he; simp [boolW]
    · simp [boolW, he]
  · simp [boolW]
theorem byItems_ok (g : Sh.Glob) (l l' : List V) (hl : l.length ≤ maxLen) (H : ∀ (i : Nat) x y, l[i]? = some x → l'[i]? = some y → SCalls Tryz.prog g 32 [tv x, tv y] [] (I (cmpV x y)) []) :
    SCalls Tryz.prog g 72 [.pv (.sl 4 (V.rows l)), .pv (.sl 4 (V.rows l')), .pv (.v (.func (.func 32) #[] #[]))] [] (I (cmpL l l')) [] := by
  refine call_of0 hmix tf_val_byItems_api_Val_ rfl ?_
  simp only [vcA, seval, vV]
  refine v_loop (σ := { i : Nat // i ≤ min l.length l'.length ∧ cmpL l l' = cmpL (l.drop i) (l'.drop i) }) (fun i => ⟨[(0, .pv (.sl 4 (V.rows l))), (1, .pv (.sl 4 (V.rows l'))), (2, .pv (.v (.func (.func 32) #[] #[]))), (13, I (min (l.length : Int) (l'.length : Int))), (14, I (i.1 : Int))], [], [], []⟩) (fun i => min l.length l'.length - i.1) ⟨0, Nat.zero_le _, rfl⟩ (lw_eq rfl) ?_
  rintro ⟨i, hi, hc⟩
  simp only [vcA, seval, vV]
  have hm : maxLen = 9223372036854775807 := rfl
  refine ⟨fun hlt => ?_, fun hge => ?_⟩
  · refine ⟨by omega, fun x hx => ⟨by omega, fun y hy => ?_⟩⟩
    (with_reducible apply v_callv); (· simp only [vcA, seval, vV]; with_reducible rfl); (· exact H i x y hx hy); (· rfl); (· simp only [vcA, seval, vV]; with_reducible rfl)
    have hd := cmpL_drop hx hy
    rw [← hc] at hd
    unfold thenI at hd
    simp only [vcA, seval, vV]
    refine ⟨fun h0 => ?_, fun h0 => ?_⟩
    · rw [if_pos h0] at hd
      have w1 : IntKind.i64.wrap ((i : Int) + 1) = (i : Int) + 1 := wrap64 (by omega) (by omega)
      refine loopK_of ⟨i + 1, by omega, hd⟩ (by show _ - (i + 1) < _ - i; omega) ?_
      apply lw_of <;> simp [leL, lk, sv, Nat.beq, I, S, ES.kill, has, drp, nilT, w1]
    · rw [if_neg h0] at hd
      rw [hd]
  · (with_reducible apply v_call); (· simp only [vcA, seval, vV]; with_reducible rfl); (· exact cmpI_ok g _ _); (· first | rfl | (simp only [vcA, seval]; omega)); (· simp only [vcA, seval, vV]; with_reducible rfl)
    simp only [vcA, seval, vV]
    rw [hc, cmpL_end (by omega)]
theorem compare_n (g : Sh.Glob) : ∀ (n : Nat) (x y : V), SizeOf.sizeOf x ≤ n → VSmall x → SCalls Tryz.prog g 32 [tv x, tv y] [] (I (cmpV x y)) []
  | 0, x, y, h, _ => by cases x; simp at h
  | n + 1, x, y, h, hx => by
    have HB := byItems_ok g x.l y.l hx.len (fun i a b ha hb => compare_n g n a b (by
      have hm := List.mem_of_getElem? ha
      have := List.sizeOf_lt_of_mem hm
      cases x; simp [V.l] at h this ⊢; omega) (hx.sub (List.mem_of_getElem? ha)))
    refine call_of0 hmix tf_val_Compare rfl ?_
    rw [cmpV_eq]
    simp only [vcA, seval, vV]
    (with_reducible apply v_call); (· simp only [vcA, seval, vV]; with_reducible rfl); (· exact cmpI_ok g _ _); (· first | rfl | (simp only [vcA, seval]; omega)); (· simp only [vcA, seval, vV]; with_reducible rfl)
    simp only [vcA, seval, vV]
    refine ⟨fun h1 => ?_, fun h1 => by rw [thenI, if_neg h1]⟩
    rw [thenI, if_pos h1]
    (with_reducible apply v_call); (· simp only [vcA, seval, vV]; with_reducible rfl); (· exact cmpI_ok g _ _); (· first | rfl | (simp only [vcA, seval]; omega)); (· simp only [vcA, seval, vV]; with_reducible rfl)
    simp only [vcA, seval, vV]
    refine ⟨fun h2 => ?_, fun h2 => by rw [thenI, if_neg h2]⟩
    rw [thenI, if_pos h2]
    (with_reducible apply v_call); (· simp only [vcA, seval, vV]; with_reducible rfl); (· exact cmpS_ok g _ _); (· first | rfl | (simp only [vcA, seval]; omega)); (· simp only [vcA, seval, vV]; with_reducible rfl)
    simp only [vcA, seval, vV]
    refine ⟨fun h3 => ?_, fun h3 => by rw [thenI, if_neg h3]⟩
    rw [thenI, if_pos h3]
    (with_reducible apply v_call); (· simp only [vcA, seval, vV]; with_reducible rfl); (· exact HB); (· first | rfl | (simp only [vcA, seval]; omega)); (· simp only [vcA, seval, vV]; with_reducible rfl)
    simp only [vcA, seval, vV]
theorem compare_ok (g : Sh.Glob) (x y : V) (hx : VSmall x) : SCalls Tryz.prog g 32 [tv x, tv y] [] (I (cmpV x y)) [] := compare_n g _ x y (Nat.le_refl _) hx
theorem same_ok (g : Sh.Glob) (x y : V) (hx : VSmall x) : SCalls Tryz.prog g 34 [tv x, tv y] [] (.pv (.v (.bool (decide (cmpV x y = 0))))) [] := by
  refine call_of0 hmix tf_val_Same rfl ?_
  simp only [vcA, seval, vV]
  (with_reducible apply v_call); (· simp only [vcA, seval, vV]; with_reducible rfl); (· exact compare_ok g x y hx); (· first | rfl | (simp only [vcA, seval]; omega)); (· simp only [vcA, seval, vV]; with_reducible rfl)
  simp only [vcA, seval, vV]
/-- The document's loop over two lists. -/
theorem refLoop (g : Sh.Glob) (x y : V) (hx : VSmall x) (H : ∀ (i : Nat) a b, x.l[i]? = some a → y.l[i]? = some b → SCalls Tryz.prog g 33 [tv a, tv b] [] (I (cmpV a b)) []) (c : Int) :
    swp Tryz.prog g (.loop c_moraineref03_Compare_12) (blockW 0 (thenW (swp Tryz.prog g (.seq (.seq c_moraineref03_Compare_13 (.cond (.tmp 67) (.seq c_moraineref03_Compare_14 .ret) .skip)) (.seq c_moraineref03_Compare_15 .ret)) (Post0 [.tmp 4] (I (thenI c (cmpL x.l y.l))))) (Post0 [.tmp 4] (I (thenI c (cmpL x.l y.l))))))
      ⟨[(2, .ptr 2 0), (3, .ptr 3 0), (5, I c), (6, I 0)], [(2, [I x.k, I x.n, S (str x.s), .pv (.sl 4 (V.rows x.l))]), (3, [I y.k, I y.n, S (str y.s), .pv (.sl 4 (V.rows y.l))])], [], []⟩ := by
  refine v_loop (σ := { p : Nat × Int // p.1 ≤ min x.l.length y.l.length ∧ thenI c (cmpL x.l y.l) = thenI p.2 (cmpL (x.l.drop p.1) (y.l.drop p.1)) })
    (fun p => ⟨[(2, .ptr 2 0), (3, .ptr 3 0), (5, I p.1.2), (6, I (p.1.1 : Int))], [(2, [I x.k, I x.n, S (str x.s), .pv (.sl 4 (V.rows x.l))]), (3, [I y.k, I y.n, S (str y.s), .pv (.sl 4 (V.rows y.l))])], [], []⟩)
    (fun p => min x.l.length y.l.length - p.1.1) ⟨(0, c), Nat.zero_le _, rfl⟩ (lw_eq rfl) ?_
  rintro ⟨⟨i, d⟩, hi, hc⟩
  have hm : maxLen = 9223372036854775807 := rfl
  have hl := hx.len
  simp only at hi hc
  simp only [vcA, seval, vV]
  refine ⟨fun h0 => ⟨fun h1 => ⟨fun h2 => ⟨by omega, fun a ha => ⟨by omega, fun b hb => ?_⟩⟩, fun h2 => ⟨fun _ => ?_, fun h => absurd h0 h⟩⟩, fun h1 => ⟨fun _ => ?_, fun h => absurd h0 h⟩⟩, fun h0 => ⟨fun h => absurd h h0, fun _ => ?_⟩⟩
  · (with_reducible apply v_call); (· simp only [vcA, seval, vV]; with_reducible rfl); (· exact H i a b ha hb); (· first | rfl | (simp only [vcA, seval]; omega)); (· simp only [vcA, seval, vV]; with_reducible rfl)
    simp only [vcA, seval, vV]
    have w1 : IntKind.i64.wrap ((i : Int) + 1) = (i : Int) + 1 := wrap64 (by omega) (by omega)
    refine loopK_of ⟨(i + 1, cmpV a b), by show i + 1 ≤ _; omega, ?_⟩ (by show _ - (i + 1) < _ - i; omega) ?_
    · show _ = thenI (cmpV a b) (cmpL (x.l.drop (i + 1)) (y.l.drop (i + 1)))
      rw [hc, h0, cmpL_drop ha hb]; simp [thenI]
    apply lw_of <;> simp [leL, lk, sv, Nat.beq, I, S, ES.kill, has, drp, nilT, w1]
  · (with_reducible apply v_call); (· simp only [vcA, seval, vV]; with_reducible rfl); (· exact order_ok g _ _); (· first | rfl | (simp only [vcA, seval]; omega)); (· simp only [vcA, seval, vV]; with_reducible rfl)
    simp only [vcA, seval, vV]
    rw [hc, h0, thenI, if_pos rfl, cmpL_end (by omega)]
  · (with_reducible apply v_call); (· simp only [vcA, seval, vV]; with_reducible rfl); (· exact order_ok g _ _); (· first | rfl | (simp only [vcA, seval]; omega)); (· simp only [vcA, seval, vV]; with_reducible rfl)
    simp only [vcA, seval, vV]
    rw [hc, h0, thenI, if_pos rfl, cmpL_end (by omega)]
  · rw [hc, thenI, if_neg h0]
theorem refCompare_n (g : Sh.Glob) : ∀ (n : Nat) (x y : V), SizeOf.sizeOf x ≤ n → VSmall x → SCalls Tryz.prog g 33 [tv x, tv y] [] (I (cmpV x y)) []
  | 0, x, y, h, _ => by cases x; simp at h
  | n + 1, x, y, h, hx => by
    have H : ∀ (i : Nat) a b, x.l[i]? = some a → y.l[i]? = some b → SCalls Tryz.prog g 33 [tv a, tv b] [] (I (cmpV a b)) [] := fun i a b ha hb => refCompare_n g n a b (by
      have hm := List.mem_of_getElem? ha
      have := List.sizeOf_lt_of_mem hm
      cases x; simp [V.l] at h this ⊢; omega) (hx.sub (List.mem_of_getElem? ha))
    have HL := refLoop g x y hx H
    refine call_of0 hmix tf_moraineref03_Compare rfl ?_
    rw [cmpV_eq]
    by_cases h1 : ordI x.k y.k = 0
    · rw [h1, thenI, if_pos rfl]
      simp only [vcA, seval, vV]
      (with_reducible apply v_call); (· simp only [vcA, seval, vV]; with_reducible rfl); (· exact order_ok g _ _); (· first | rfl | (simp only [vcA, seval]; omega)); (· simp only [vcA, seval, vV]; with_reducible rfl)
      simp only [vcA, seval, vV, h1]
      (with_reducible apply v_call); (· simp only [vcA, seval, vV]; with_reducible rfl); (· exact order_ok g _ _); (· first | rfl | (simp only [vcA, seval]; omega)); (· simp only [vcA, seval, vV]; with_reducible rfl)
      by_cases h2 : ordI x.n y.n = 0
      · rw [h2, thenI, if_pos rfl]
        cases hb : Op.bytesLess x.s y.s
        · by_cases he : x.s = y.s
          · have e : ordS x.s y.s = 0 := by rw [ordS, hb]; simp [he]
            have he' : (x.s == y.s) = true := by simp [he]
            rw [e]
            simp only [vcA, seval, vV, h2, hb, he']
            exact HL 0
          · have e : ordS x.s y.s = 1 := by simp [ordS, hb, he]
            have he' : (x.s == y.s) = false := by simp [he]
            rw [e]
            simp only [vcA, seval, vV, h2, hb, he']
            exact HL 1
        · have e : ordS x.s y.s = -1 := by simp [ordS, hb]
          rw [e]
          simp only [vcA, seval, vV, h2, hb]
          exact HL (-1)
      · rw [show thenI (ordI x.n y.n) (thenI (ordS x.s y.s) (cmpL x.l y.l)) = thenI (ordI x.n y.n) (cmpL x.l y.l) by simp [thenI, h2]]
        simp only [vcA, seval, vV, h2]
        exact HL _
    · rw [show thenI (ordI x.k y.k) (thenI (ordI x.n y.n) (thenI (ordS x.s y.s) (cmpL x.l y.l))) = thenI (ordI x.k y.k) (cmpL x.l y.l) by simp [thenI, h1]]
      simp only [vcA, seval, vV]
      (with_reducible apply v_call); (· simp only [vcA, seval, vV]; with_reducible rfl); (· exact order_ok g _ _); (· first | rfl | (simp only [vcA, seval]; omega)); (· simp only [vcA, seval, vV]; with_reducible rfl)
      simp only [vcA, seval, vV, h1]
      exact HL _
theorem refCompare_ok (g : Sh.Glob) (x y : V) (hx : VSmall x) : SCalls Tryz.prog g 33 [tv x, tv y] [] (I (cmpV x y)) [] := refCompare_n g _ x y (Nat.le_refl _) hx
theorem refSame_ok (g : Sh.Glob) (x y : V) (hx : VSmall x) : SCalls Tryz.prog g 19 [tv x, tv y] [] (.pv (.v (.bool (decide (cmpV x y = 0))))) [] := by
  refine call_of0 hmix tf_moraineref03_Same rfl ?_
  simp only [vcA, seval, vV]
  (with_reducible apply v_call); (· simp only [vcA, seval, vV]; with_reducible rfl); (· exact refCompare_ok g x y hx); (· first | rfl | (simp only [vcA, seval]; omega)); (· simp only [vcA, seval, vV]; with_reducible rfl)
  simp only [vcA, seval, vV]
end Go.Proofs.YthjphllpkcnehaaGreatDoor
end

section
/- The statements' ValOf. No statement of the program is proved here. -/
namespace Go.Proofs.YthjphllpkcnehaaGreatDoor
open Go Go.RowKit Go.Mor Go.Sh Go.Sh.Cd1
set_option maxRecDepth 100000
set_option maxHeartbeats 2000000
def oneOf (r : R1) : V := valOne (pickI r.k 5) r.n r.s
def onesTo (l : List R1) (i : Nat) : List V := (l.take i).map oneOf
theorem onesTo_succ {l : List R1} {i : Nat} {r : R1} (h : l[i]? = some r) : onesTo l (i + 1) = onesTo l i ++ [oneOf r] := by
  unfold onesTo; rw [List.take_add_one, h]; simp
theorem onesTo_len {l : List R1} {i : Nat} (h : i ≤ l.length) : (onesTo l i).length = i := by simp [onesTo]; omega
theorem oneOf_l (r : R1) : (oneOf r).l = [] := valOne_l _ _ _
theorem rowsApp (l : List V) (y : V) : V.rows (l ++ [y]) = V.rows l ++ [V.row y] := by simp [rows_eq]
theorem rowNil {y : V} (h : y.l = []) : V.row y = [.v (.int .i64 y.k), .v (.int .i64 y.n), .v (.string (str y.s)), .sl 4 []] := by rw [row4, h, V.rows_nil]
theorem valOf_list (g : Sh.Glob) (x : RawV) (hx : x.ok) (hk5 : ¬ pickI x.k 7 < 5) : SCalls Tryz.prog g 16 [x.tv] [] (tv (valOf x)) [] := by
  refine call_of1 hmix tf_morainelaw03_ValOf rfl rfl ?_
  obtain ⟨hk, hn, hs, hl, hlen⟩ := hx
  simp only [vcA, seval, RawV.tv, I, S]
  (with_reducible apply v_call); (· simp only [vcA, seval, I, S]; with_reducible rfl); (· exact pickI_ok g _ _ hk (by decide)); (· first | rfl | (simp only [vcA, seval]; omega)); (· simp only [vcA, seval, I, S]; with_reducible rfl)
  simp only [vcA, seval, hk5, I, S]
  refine v_loop (σ := { i : Nat // i ≤ x.l.length ∧ i ≤ 12 })
    (fun i => ⟨[(1, .ptr 1 0), (2, .ptr 2 0), (5, .ptr 5 0), (6, I (i.1 : Int))], [(1, [I x.k, I x.n, S (str x.s), .pv (.sl 3 (x.l.map R1.row))]), (2, [I 0, I 0, S ⟨#[]⟩, nilT]), (5, [I 5, I 0, S ⟨#[]⟩, .own 3000 4 (V.rows (onesTo x.l i.1))])], [(3000, (42, 4, i.1))], []⟩)
    (fun i => 12 - i.1) ⟨0, Nat.zero_le _, Nat.zero_le _⟩ ?_ ?_
  · refine ES.Lw.trans ?_ (adB_lw (x := 5) (j := 3) (d := 3000) (e := 42) (W := 4) (.inr (by decide)) (by decide) rfl (by simp only [vcA, seval]) rfl)
    exact lw_eq rfl
  rintro ⟨i, hi, h12⟩
  have ol := onesTo_len hi
  simp only [vcA, seval, vV, nilT]
  have he : valOf x = .mk 5 0 [] (oneL x.l) := by unfold valOf; rw [if_neg hk5]
  have hend : (i = x.l.length ∨ i = 12) → onesTo x.l i = oneL x.l := by
    intro h
    unfold oneL onesTo
    rcases h with h | h
    · rw [h, List.take_of_length_le (Nat.le_refl _), List.take_of_length_le (by omega)]; rfl
    · rw [h]; rfl
  refine ⟨fun h1 => ⟨fun h2 => .inl ⟨by omega, fun r hr => ?_⟩, fun h2 => ?_⟩, fun h1 => ?_⟩
  · obtain ⟨o1, o2, o3⟩ := hl r (List.mem_of_getElem? hr)
    (with_reducible apply v_call); (· simp only [vcA, seval, I, S]; with_reducible rfl); (· exact pickI_ok g _ _ o1 (by decide)); (· first | rfl | (simp only [vcA, seval]; omega)); (· simp only [vcA, seval, I, S]; with_reducible rfl)
    simp only [vcA, seval, vV]
    refine ⟨by omega, fun r' hr' => ?_⟩
    rw [hr] at hr'; cases hr'
    have HV := (valOne_ok g (pickI r.k 5) r.k r.n r.s o2 o3).out (nv_tv (valOne_l _ _ _))
    unfold tv at HV
    rw [valOne_l, V.rows_nil] at HV
    (with_reducible apply v_call); (· simp only [vcA, seval, vV]; with_reducible rfl); (· exact HV); (· first | rfl | (simp only [vcA, seval]; omega)); (· simp only [vcA, seval, vV]; with_reducible rfl)
    simp only [vcA, seval, vV, ol]
    refine ⟨⟨by omega, by have hm : maxLen = 9223372036854775807 := rfl; omega⟩, loopK_of ⟨i + 1, by omega, by omega⟩ (by show 12 - (i + 1) < 12 - i; omega) ?_⟩
    have w1 : IntKind.i64.wrap ((i : Int) + 1) = ((i + 1 : Nat) : Int) := by rw [wrap64 (by omega) (by omega)]; omega
    refine lw_eq ?_
    simp only [onesTo_succ hr, rowsApp, rowNil (oneOf_l r), w1]
    rfl
  · rw [he, hend (.inr (by omega))]; rfl
  · rw [he, hend (.inl (by omega))]; rfl
theorem valOf_l_small {x : RawV} (h : pickI x.k 7 < 5) : (valOf x).l = [] := by
  unfold valOf; rw [if_pos h]; split
  · rfl
  · exact valOne_l _ _ _
theorem valOf_ok (g : Sh.Glob) (x : RawV) (hx : x.ok) : SCalls Tryz.prog g 16 [x.tv] [] (tv (valOf x)) [] := by
  by_cases h : pickI x.k 7 < 5
  · exact (valOf_small g x hx h).out (nv_tv (valOf_l_small h))
  · exact valOf_list g x hx h
end Go.Proofs.YthjphllpkcnehaaGreatDoor
end

section
/- Calls of package val that are known, with the package's variables. No statement of the program is proved here. -/
namespace Go.Proofs.YthjphllpkcnehaaGreatDoor
open Go Go.RowKit Go.Mor Go.Sh Go.Sh.Cd1
theorem fits_ok (a0 a1 : Addr) (n : Nat) (x : V) (t : Ty) (hx : VOk x) (hl : x.l.length ≤ maxLen) : SCalls Tryz.prog (gl a0 a1 n) 36 [tv x, tyT t] [] (.pv (.v (.bool (fitsV x t)))) [] := sc_up (fits_ok0 n x t hx hl)
theorem rightV_ok (a0 a1 : Addr) (n : Nat) (x : V) (hx : VOk x) : SCalls Tryz.prog (gl a0 a1 n) 28 [tv x] [] (.pv (.v (.bool (rightV x)))) [] := sc_up (rightV_ok0 n x hx)
theorem rightText_ok (a0 a1 : Addr) (m : Nat) (t : List UInt8) (ht : t.length ≤ 9223372036854775807) : SCalls Tryz.prog (gl a0 a1 m) 64 [S (str t)] [] (.pv (.v (.bool (rightText t)))) [] := sc_up (rightText_ok0 m t ht)
end Go.Proofs.YthjphllpkcnehaaGreatDoor
end

section
/- Values as bytes: the program's way. No statement of the program is proved here. -/
namespace Go.Proofs.YthjphllpkcnehaaGreatDoor
open Go Go.RowKit Go.Mor Go.Sh Go.Sh.Cd1
set_option maxRecDepth 100000
set_option maxHeartbeats 2000000
theorem bl_str (l : List UInt8) : bl (str l) = l := by simp [bl, str]
theorem in64_T {x : Int} (h : I64 x) : in64 x = true := by unfold in64; obtain ⟨h1, h2⟩ := h; simp [h1, h2]
theorem num_ok (a0 a1 : Addr) (m : Nat) (x : Int) (h : I64 x) : SCalls Tryz.prog (gl a0 a1 m) 110 [I x] [] (S (str (num x))) [] :=
  prim1_sound a0 a1 m _ _ _ _ _ (by simp [prim1, I, Nat.beq, in64_T h])
theorem text_ok (a0 a1 : Addr) (m : Nat) (l : List UInt8) (h : l.length ≤ 10000) : SCalls Tryz.prog (gl a0 a1 m) 111 [S (str l)] [] (.tuple [S (str (text l)), I 0]) [] :=
  prim1_sound a0 a1 m _ _ _ _ _ (by simp [prim1, S, Nat.beq, bl_str, textTV, h]; omega)
theorem readNum_ok (a0 a1 : Addr) (m : Nat) (l : List UInt8) (a : Int) (hl : l.length < 1125899906842624) (h : I64 a) : SCalls Tryz.prog (gl a0 a1 m) 152 [S (str l), I a] [] (numTV (readNum l a)) [] :=
  prim1_sound a0 a1 m _ _ _ _ _ (by simp [prim1, S, I, Nat.beq, bl_str, in64_T h, hl])
theorem readText_ok (a0 a1 : Addr) (m : Nat) (l : List UInt8) (a : Int) (hl : l.length < 1125899906842624) (h : I64 a) : SCalls Tryz.prog (gl a0 a1 m) 153 [S (str l), I a] [] (readTV (readText l a)) [] :=
  prim1_sound a0 a1 m _ _ _ _ _ (by simp [prim1, S, I, Nat.beq, bl_str, in64_T h, hl])
/-- Bytes as a slice's elements. -/
def byR (l : List UInt8) : List (List PV) := l.map fun u => [.v (.int .u8 u.toNat)]
theorem byP (l : List UInt8) : bytesP (str l) = byR l := by simp [bytesP, byR, str]
theorem byApp (a b : List UInt8) : byR a ++ byR b = byR (a ++ b) := by simp [byR]
theorem byLen (a : List UInt8) : (byR a).length = a.length := by simp [byR]
theorem bySeq : ∀ (a : List UInt8), seqO Sh.byteOf (byR a) = some a
  | [] => rfl
  | u :: a => by
    have ih := bySeq a
    unfold byR at ih ⊢
    simp only [List.map_cons, seqO, ih, Sh.byteOf]
    simp
theorem strMk (l : List UInt8) : (⟨l.toArray⟩ : ByteArray) = str l := rfl
/-- The bytes of a value that is no list. -/
def enc1 (x : V) : List UInt8 := num x.k ++ (if x.k = 1 ∨ x.k = 3 ∨ x.k = 4 then num x.n else if x.k = 2 then text x.s else [])
def encV (x : V) : List UInt8 := if x.k = 5 then num 5 ++ num x.l.length ++ x.l.flatMap enc1 else enc1 x
theorem text_len {l : List UInt8} (h : l.length ≤ 60) : (text l).length ≤ 70 := by
  have := num_length l.length
  simp [text]; omega
theorem lay_one (a0 a1 : Addr) (m : Nat) (x : V) (b : List UInt8) (hk : I64 x.k) (hn : I64 x.n) (hs : x.s.length ≤ 60) (h5 : x.k ≠ 5) (hb : b.length ≤ 100000) :
    SCalls Tryz.prog (gl a0 a1 m) 58 [.own 1000 1 (byR b), tv x] [.row 5 1 b.length] (.own 1000 1 (byR (b ++ enc1 x))) [.row 5 1 (b ++ enc1 x).length] := by
  have HK := num_ok a0 a1 m x.k hk
  have HN := num_ok a0 a1 m x.n hn
  have lk' := num_length x.k
  have ln := num_length x.n
  have hm : maxLen = 9223372036854775807 := rfl
  refine call_of hmix tf_val_lay rfl rfl (by simp [moOk, Nat.beq_refl, nble]) ?_
  simp only [vcA, seval, vV]
  refine .inl ?_
  (with_reducible apply v_call); (· simp only [vcA, seval, vV, byP, byApp, byLen, bySeq, strMk]; with_reducible rfl); (· exact HK); (· first | rfl | (simp only [vcA, seval]; omega)); (· simp only [vcA, seval, vV, byP, byApp, byLen, bySeq, strMk]; with_reducible rfl)
  by_cases e1 : x.k = 1
  · have nk := num_length 1
    rw [show enc1 x = num x.k ++ num x.n by unfold enc1; rw [if_pos (by omega)]]
    simp only [vcA, seval, vV, byP, byApp, byLen, bySeq, strMk, e1, List.nil_append, Nat.zero_add]
    refine ⟨⟨by omega, by omega⟩, .inl ?_⟩
    (with_reducible apply v_call); (· simp only [vcA, seval, vV, byP, byApp, byLen, bySeq, strMk]; with_reducible rfl); (· exact HN); (· first | rfl | (simp only [vcA, seval]; omega)); (· simp only [vcA, seval, vV, byP, byApp, byLen, bySeq, strMk]; with_reducible rfl)
    simp only [vcA, seval, vV, byP, byApp, byLen, bySeq, strMk]
    exact ⟨⟨by omega, by omega⟩, by simp only [List.append_assoc, Nat.add_assoc, List.nil_append]⟩
  by_cases e3 : x.k = 3
  · have nk := num_length 3
    rw [show enc1 x = num x.k ++ num x.n by unfold enc1; rw [if_pos (by omega)]]
    simp only [vcA, seval, vV, byP, byApp, byLen, bySeq, strMk, e3, List.nil_append, Nat.zero_add]
    refine ⟨⟨by omega, by omega⟩, .inl ?_⟩
    (with_reducible apply v_call); (· simp only [vcA, seval, vV, byP, byApp, byLen, bySeq, strMk]; with_reducible rfl); (· exact HN); (· first | rfl | (simp only [vcA, seval]; omega)); (· simp only [vcA, seval, vV, byP, byApp, byLen, bySeq, strMk]; with_reducible rfl)
    simp only [vcA, seval, vV, byP, byApp, byLen, bySeq, strMk]
    exact ⟨⟨by omega, by omega⟩, by simp only [List.append_assoc, Nat.add_assoc, List.nil_append]⟩
  by_cases e4 : x.k = 4
  · have nk := num_length 4
    rw [show enc1 x = num x.k ++ num x.n by unfold enc1; rw [if_pos (by omega)]]
    simp only [vcA, seval, vV, byP, byApp, byLen, bySeq, strMk, e4, List.nil_append, Nat.zero_add]
    refine ⟨⟨by omega, by omega⟩, .inl ?_⟩
    (with_reducible apply v_call); (· simp only [vcA, seval, vV, byP, byApp, byLen, bySeq, strMk]; with_reducible rfl); (· exact HN); (· first | rfl | (simp only [vcA, seval]; omega)); (· simp only [vcA, seval, vV, byP, byApp, byLen, bySeq, strMk]; with_reducible rfl)
    simp only [vcA, seval, vV, byP, byApp, byLen, bySeq, strMk]
    exact ⟨⟨by omega, by omega⟩, by simp only [List.append_assoc, Nat.add_assoc, List.nil_append]⟩
  by_cases e2 : x.k = 2
  · have nk := num_length 2
    have tk := text_len hs
    rw [show enc1 x = num x.k ++ text x.s by unfold enc1; rw [if_neg (by omega), if_pos e2]]
    simp only [vcA, seval, vV, byP, byApp, byLen, bySeq, strMk, e2, List.nil_append, Nat.zero_add]
    refine ⟨⟨by omega, by omega⟩, ?_⟩
    (with_reducible apply v_call); (· simp only [vcA, seval, vV, byP, byApp, byLen, bySeq, strMk]; with_reducible rfl); (· exact text_ok a0 a1 m x.s (by omega)); (· first | rfl | (simp only [vcA, seval]; omega)); (· simp only [vcA, seval, vV, byP, byApp, byLen, bySeq, strMk]; with_reducible rfl)
    simp only [vcA, seval, vV, byP, byApp, byLen, bySeq, strMk]
    exact ⟨⟨by omega, by omega⟩, by simp only [List.append_assoc, Nat.add_assoc, List.nil_append]⟩
  rw [show enc1 x = num x.k by unfold enc1; rw [if_neg (by omega), if_neg e2, List.append_nil]]
  simp only [vcA, seval, vV, byP, byApp, byLen, bySeq, strMk, e1, e2, e3, e4, h5, List.nil_append, Nat.zero_add]
  exact ⟨by omega, by omega⟩
/-- A value that is no list, onto nothing. -/
theorem lay_nil1 (a0 a1 : Addr) (m : Nat) (x : V) (hk : I64 x.k) (hn : I64 x.n) (hs : x.s.length ≤ 60) (h5 : x.k ≠ 5) :
    SCalls Tryz.prog (gl a0 a1 m) 58 [nilT, tv x] [] (.own 1000 1 (byR (enc1 x))) [.row 5 1 (enc1 x).length] := by
  have HK := num_ok a0 a1 m x.k hk
  have HN := num_ok a0 a1 m x.n hn
  have lk' := num_length x.k
  have ln := num_length x.n
  have hm : maxLen = 9223372036854775807 := rfl
  refine call_of hmix tf_val_lay rfl rfl (by simp [moOk, nble]) ?_
  simp only [vcA, seval, vV, nilT]
  refine .inr ?_
  (with_reducible apply v_call); (· simp only [vcA, seval, vV, byP, byApp, byLen, bySeq, strMk]; with_reducible rfl); (· exact HK); (· first | rfl | (simp only [vcA, seval]; omega)); (· simp only [vcA, seval, vV, byP, byApp, byLen, bySeq, strMk]; with_reducible rfl)
  by_cases e1 : x.k = 1
  · have nk := num_length 1
    rw [show enc1 x = num x.k ++ num x.n by unfold enc1; rw [if_pos (by omega)]]
    simp only [vcA, seval, vV, byP, byApp, byLen, bySeq, strMk, e1, List.nil_append, Nat.zero_add]
    refine ⟨⟨by omega, by omega⟩, .inl ?_⟩
    (with_reducible apply v_call); (· simp only [vcA, seval, vV, byP, byApp, byLen, bySeq, strMk]; with_reducible rfl); (· exact HN); (· first | rfl | (simp only [vcA, seval]; omega)); (· simp only [vcA, seval, vV, byP, byApp, byLen, bySeq, strMk]; with_reducible rfl)
    simp only [vcA, seval, vV, byP, byApp, byLen, bySeq, strMk]
    exact ⟨by omega, by omega⟩
  by_cases e3 : x.k = 3
  · have nk := num_length 3
    rw [show enc1 x = num x.k ++ num x.n by unfold enc1; rw [if_pos (by omega)]]
    simp only [vcA, seval, vV, byP, byApp, byLen, bySeq, strMk, e3, List.nil_append, Nat.zero_add]
    refine ⟨⟨by omega, by omega⟩, .inl ?_⟩
    (with_reducible apply v_call); (· simp only [vcA, seval, vV, byP, byApp, byLen, bySeq, strMk]; with_reducible rfl); (· exact HN); (· first | rfl | (simp only [vcA, seval]; omega)); (· simp only [vcA, seval, vV, byP, byApp, byLen, bySeq, strMk]; with_reducible rfl)
    simp only [vcA, seval, vV, byP, byApp, byLen, bySeq, strMk]
    exact ⟨by omega, by omega⟩
  by_cases e4 : x.k = 4
  · have nk := num_length 4
    rw [show enc1 x = num x.k ++ num x.n by unfold enc1; rw [if_pos (by omega)]]
    simp only [vcA, seval, vV, byP, byApp, byLen, bySeq, strMk, e4, List.nil_append, Nat.zero_add]
    refine ⟨⟨by omega, by omega⟩, .inl ?_⟩
    (with_reducible apply v_call); (· simp only [vcA, seval, vV, byP, byApp, byLen, bySeq, strMk]; with_reducible rfl); (· exact HN); (· first | rfl | (simp only [vcA, seval]; omega)); (· simp only [vcA, seval, vV, byP, byApp, byLen, bySeq, strMk]; with_reducible rfl)
    simp only [vcA, seval, vV, byP, byApp, byLen, bySeq, strMk]
    exact ⟨by omega, by omega⟩
  by_cases e2 : x.k = 2
  · have nk := num_length 2
    have tk := text_len hs
    rw [show enc1 x = num x.k ++ text x.s by unfold enc1; rw [if_neg (by omega), if_pos e2]]
    simp only [vcA, seval, vV, byP, byApp, byLen, bySeq, strMk, e2, List.nil_append, Nat.zero_add]
    refine ⟨⟨by omega, by omega⟩, ?_⟩
    (with_reducible apply v_call); (· simp only [vcA, seval, vV, byP, byApp, byLen, bySeq, strMk]; with_reducible rfl); (· exact text_ok a0 a1 m x.s (by omega)); (· first | rfl | (simp only [vcA, seval]; omega)); (· simp only [vcA, seval, vV, byP, byApp, byLen, bySeq, strMk]; with_reducible rfl)
    simp only [vcA, seval, vV, byP, byApp, byLen, bySeq, strMk]
    exact ⟨by omega, by omega⟩
  rw [show enc1 x = num x.k by unfold enc1; rw [if_neg (by omega), if_neg e2, List.append_nil]]
  simp only [vcA, seval, vV, byP, byApp, byLen, bySeq, strMk, e1, e2, e3, e4, h5, List.nil_append, Nat.zero_add]
  exact ⟨by omega, by omega⟩
theorem enc1_len {x : V} (hs : x.s.length ≤ 60) : (enc1 x).length ≤ 80 := by
  have h1 := num_length x.k
  have h2 := num_length x.n
  have h3 := text_len hs
  unfold enc1
  rw [List.length_append]
  split
  · omega
  split
  · omega
  · simp; omega
/-- What may be laid as bytes. -/
def V1Ok (x : V) : Prop := I64 x.k ∧ I64 x.n ∧ x.s.length ≤ 60
def encTo (l : List V) (i : Nat) : List UInt8 := num 5 ++ num l.length ++ (l.take i).flatMap enc1
theorem encTo_succ {l : List V} {i : Nat} {y : V} (h : l[i]? = some y) : encTo l (i + 1) = encTo l i ++ enc1 y := by
  unfold encTo; rw [List.take_add_one, h]; simp
theorem encTo_len {l : List V} (h : ∀ y ∈ l, y.s.length ≤ 60) : ∀ i, (encTo l i).length ≤ 20 + i * 80
  | 0 => by have h1 := num_length 5; have h2 := num_length l.length; simp [encTo]; omega
  | i + 1 => by
    have ih := encTo_len h i
    cases hy : l[i]? with
    | none =>
      have : encTo l (i + 1) = encTo l i := by unfold encTo; rw [List.take_add_one, hy]; simp
      rw [this]; omega
    | some y =>
      have := enc1_len (h y (List.mem_of_getElem? hy))
      rw [encTo_succ hy, List.length_append]; omega
theorem lay_nilL (a0 a1 : Addr) (m : Nat) (x : V) (h5 : x.k = 5) (hl : x.l.length ≤ 12) (hx : ∀ y ∈ x.l, V1Ok y ∧ y.k ≠ 5) :
    SCalls Tryz.prog (gl a0 a1 m) 58 [nilT, tv x] [] (.own 1000 1 (byR (encTo x.l x.l.length))) [.row 5 1 (encTo x.l x.l.length).length] := by
  have HK := num_ok a0 a1 m 5 (by unfold I64; decide)
  have HN := num_ok a0 a1 m x.l.length (by unfold I64; omega)
  have lk' := num_length 5
  have ln := num_length x.l.length
  have hm : maxLen = 9223372036854775807 := rfl
  have hL := encTo_len (l := x.l) (fun y hy => (hx y hy).1.2.2)
  refine call_of hmix tf_val_lay rfl rfl (by simp [moOk, nble]) ?_
  simp only [vcA, seval, vV, nilT, h5]
  refine .inr ?_
  (with_reducible apply v_call); (· simp only [vcA, seval, vV, byP, byApp, byLen, bySeq, strMk]; with_reducible rfl); (· exact HK); (· first | rfl | (simp only [vcA, seval]; omega)); (· simp only [vcA, seval, vV, byP, byApp, byLen, bySeq, strMk]; with_reducible rfl)
  simp only [vcA, seval, vV, byP, byApp, byLen, bySeq, strMk]
  refine ⟨⟨by omega, by omega⟩, .inl ?_⟩
  (with_reducible apply v_call); (· simp only [vcA, seval, vV, byP, byApp, byLen, bySeq, strMk]; with_reducible rfl); (· exact HN); (· first | rfl | (simp only [vcA, seval]; omega)); (· simp only [vcA, seval, vV, byP, byApp, byLen, bySeq, strMk]; with_reducible rfl)
  simp only [vcA, seval, vV, byP, byApp, byLen, bySeq, strMk]
  refine ⟨⟨by omega, by omega⟩, ?_⟩
  have e0 : encTo x.l 0 = num 5 ++ num x.l.length := by simp [encTo]
  refine v_loop (σ := { i : Nat // i ≤ x.l.length })
    (fun i => ⟨[(0, .own 13 1 (byR (encTo x.l i.1))), (45, .pv (.sl 4 (V.rows x.l))), (46, I (x.l.length : Int)), (47, I (i.1 : Int))], [], [(13, (5, 1, (encTo x.l i.1).length))], []⟩)
    (fun i => x.l.length - i.1) ⟨0, Nat.zero_le _⟩ ?_ ?_
  · simp only [e0, List.length_append]
    apply lw_of <;> simp [leL, lk, sv, Nat.beq, I, S, ES.kill, has, drp, nilT]
  rintro ⟨i, hi⟩
  have hLi := hL i
  simp only [vcA, seval, vV, byP, byApp, byLen, bySeq, strMk]
  refine ⟨fun hlt => ⟨by omega, fun y hy => ?_⟩, fun hge => ?_⟩
  · obtain ⟨⟨o1, o2, o3⟩, o4⟩ := hx y (List.mem_of_getElem? hy)
    have hH := lay_one a0 a1 m y (encTo x.l i) o1 o2 o3 o4 (by omega)
    have hle : (encTo x.l i).length ≤ (encTo x.l (i + 1)).length := by rw [encTo_succ hy]; simp
    have hle0 : Nat.ble 0 4 = true := rfl
    rw [← encTo_succ hy] at hH
    (with_reducible apply v_call); (· simp only [vcA, seval, vV, byP, byApp, byLen, bySeq, strMk]; with_reducible rfl); (· exact hH); (· first | rfl | (simp only [vcA, seval]; omega)); (· simp only [vcA, seval, vV, byP, byApp, byLen, bySeq, strMk]; with_reducible rfl)
    simp only [vcA, seval, vV, byP, byApp, byLen, bySeq, strMk]
    refine loopK_of ⟨i + 1, by omega⟩ (by show x.l.length - (i + 1) < x.l.length - i; omega) ?_
    have w1 : IntKind.i64.wrap ((i : Int) + 1) = (i : Int) + 1 := wrap64 (by omega) (by omega)
    apply lw_of <;> simp [leL, lk, sv, Nat.beq, I, S, ES.kill, has, drp, nilT, w1]
  · obtain rfl : i = x.l.length := by omega
    trivial
end Go.Proofs.YthjphllpkcnehaaGreatDoor
end

section
/- Right values, and their bytes by the program. No statement of the program is proved here. -/
namespace Go.Proofs.YthjphllpkcnehaaGreatDoor
open Go Go.RowKit Go.Mor Go.Sh Go.Sh.Cd1
set_option maxRecDepth 100000
set_option maxHeartbeats 2000000
/-- What a right value that is no list is. -/
theorem right1_inv {x : V} (h : right1 x = true) : x = .mk 0 0 [] [] ∨ (∃ n, -1000000000000000 ≤ n ∧ n ≤ 1000000000000000 ∧ x = .mk 1 n [] []) ∨ (∃ s, rightText s = true ∧ x = .mk 2 0 s []) ∨ (∃ k n, (k = 3 ∨ k = 4) ∧ rightID n = true ∧ x = .mk k n [] []) := by
  unfold right1 bare at h
  have e := V.eta x
  by_cases h0 : x.k = 0
  · rw [if_pos h0] at h
    simp at h
    obtain ⟨⟨h1, h2⟩, h3⟩ := h
    exact .inl (by rw [← e, h0, h1, h2, h3])
  rw [if_neg h0] at h
  by_cases h0 : x.k = 1
  · rw [if_pos h0] at h
    simp at h
    obtain ⟨⟨⟨h1, h2⟩, h3⟩, h4⟩ := h
    exact .inr (.inl ⟨x.n, h3, h4, by rw [← e, h0, h1, h2]; rfl⟩)
  rw [if_neg h0] at h
  by_cases h0 : x.k = 2
  · rw [if_pos h0] at h
    simp at h
    obtain ⟨⟨h1, h2⟩, h3⟩ := h
    exact .inr (.inr (.inl ⟨x.s, h3, by rw [← e, h0, h1, h2]; rfl⟩))
  rw [if_neg h0] at h
  by_cases h0 : x.k = 3 ∨ x.k = 4
  · rw [if_pos h0] at h
    simp at h
    obtain ⟨⟨h1, h2⟩, h3⟩ := h
    exact .inr (.inr (.inr ⟨x.k, x.n, h0, h3, by rw [← e, h1, h2]; rfl⟩))
  · rw [if_neg h0] at h; cases h
theorem rightText_len {s : List UInt8} (h : rightText s = true) : s.length ≤ 60 := by unfold rightText at h; simp at h; exact h.1
theorem rightID_inv {n : Int} (h : rightID n = true) : (1 ≤ n ∧ n ≤ 100000) ∨ (-20 ≤ n ∧ n ≤ -1) := by unfold rightID at h; simpa using h
theorem right1_ok {x : V} (h : right1 x = true) : V1Ok x ∧ x.k ≠ 5 ∧ x.l = [] := by
  unfold V1Ok I64
  rcases right1_inv h with rfl | ⟨n, h1, h2, rfl⟩ | ⟨s, h1, rfl⟩ | ⟨k, n, h1, h2, rfl⟩
  · refine ⟨⟨⟨?_, ?_⟩, ⟨?_, ?_⟩, ?_⟩, ?_, rfl⟩ <;> simp [V.k, V.n, V.s]
  · refine ⟨⟨⟨?_, ?_⟩, ⟨?_, ?_⟩, ?_⟩, ?_, rfl⟩ <;> simp [V.k, V.n, V.s] <;> omega
  · have := rightText_len h1
    refine ⟨⟨⟨?_, ?_⟩, ⟨?_, ?_⟩, ?_⟩, ?_, rfl⟩ <;> simp [V.k, V.n, V.s] <;> omega
  · have := rightID_inv h2
    refine ⟨⟨⟨?_, ?_⟩, ⟨?_, ?_⟩, ?_⟩, ?_, rfl⟩ <;> simp [V.k, V.n, V.s] <;> omega
theorem rightL_inv {x : V} (h : rightV x = true) (h5 : x.k = 5) : x.n = 0 ∧ x.s = [] ∧ x.l.length ≤ 12 ∧ ∀ y ∈ x.l, y.k ≠ 5 ∧ right1 y = true := by
  unfold rightV at h
  rw [if_pos h5] at h
  simp only [Bool.and_eq_true, beq_iff_eq, decide_eq_true_eq, Bool.not_eq_true', List.any_eq_false] at h
  obtain ⟨⟨⟨h1, h2⟩, h3⟩, h4⟩ := h
  refine ⟨h1, h2, h3, fun y hy => ?_⟩
  have := h4 y hy
  unfold noItem at this
  simp at this
  exact this
theorem rightV_one {x : V} (h : rightV x = true) (h5 : x.k ≠ 5) : right1 x = true := by unfold rightV at h; rwa [if_neg h5] at h
theorem rightV_vok {x : V} (h : rightV x = true) : VOk x ∧ VSmall x ∧ x.s.length ≤ 60 ∧ x.l.length ≤ 12 := by
  have hm : maxLen = 9223372036854775807 := rfl
  by_cases h5 : x.k = 5
  · obtain ⟨h1, h2, h3, h4⟩ := rightL_inv h h5
    refine ⟨⟨by unfold TextsOk; rw [h2]; simp, fun y hy => ?_⟩, ?_, by rw [h2]; simp, h3⟩
    · have := (right1_ok (h4 y hy).2).1.2.2; unfold TextsOk; omega
    · obtain ⟨k, n, s, l⟩ := x
      simp only [Vl] at h3 h4
      refine .mk (by omega) (fun y hy => ?_)
      have := (right1_ok (h4 y hy).2).2.2
      obtain ⟨k', n', s', l'⟩ := y
      simp only [Vl] at this; subst this
      exact .mk (by simp) (by simp)
  · have h0 := right1_ok (rightV_one h h5)
    refine ⟨⟨by have := h0.1.2.2; unfold TextsOk; omega, by rw [h0.2.2]; simp⟩, ?_, h0.1.2.2, by rw [h0.2.2]; simp⟩
    obtain ⟨k, n, s, l⟩ := x
    have := h0.2.2
    simp only [Vl] at this; subst this
    exact .mk (by simp) (by simp)
def encTV (x : V) : TV := if rightV x then .tuple [S (str (encV x)), I 0] else .tuple [S (str []), I 30]
theorem encTo_all (x : V) (h5 : x.k = 5) : encTo x.l x.l.length = encV x := by
  unfold encTo encV; rw [if_pos h5, List.take_of_length_le (Nat.le_refl _)]
theorem lay_ok (a0 a1 : Addr) (m : Nat) (x : V) (h : rightV x = true) : SCalls Tryz.prog (gl a0 a1 m) 58 [nilT, tv x] [] (.own 1000 1 (byR (encV x))) [.row 5 1 (encV x).length] := by
  by_cases h5 : x.k = 5
  · obtain ⟨h1, h2, h3, h4⟩ := rightL_inv h h5
    rw [← encTo_all x h5]
    exact lay_nilL a0 a1 m x h5 h3 (fun y hy => ⟨(right1_ok (h4 y hy).2).1, (h4 y hy).1⟩)
  · obtain ⟨⟨o1, o2, o3⟩, _, _⟩ := right1_ok (rightV_one h h5)
    have := lay_nil1 a0 a1 m x o1 o2 o3 h5
    unfold encV; rw [if_neg h5]; exact this
theorem encode_ok (a0 a1 : Addr) (m : Nat) (x : V) (hx : VOk x) : SCalls Tryz.prog (gl a0 a1 m) 20 [tv x] [] (encTV x) [] := by
  have HR := rightV_ok a0 a1 m x hx
  refine call_of0 hmix tf_val_Encode rfl ?_
  unfold encTV
  simp only [vcA, seval, vV]
  (with_reducible apply v_call); (· simp only [vcA, seval, vV]; with_reducible rfl); (· exact HR); (· first | rfl | (simp only [vcA, seval]; omega)); (· simp only [vcA, seval, vV]; with_reducible rfl)
  cases hr : rightV x
  · simp only [vcA, seval, vV]
    rfl
  · have HL := lay_ok a0 a1 m x hr
    simp only [vcA, seval, vV]
    (with_reducible apply v_call); (· simp only [vcA, seval, vV, nilT]; with_reducible rfl); (· exact HL); (· first | rfl | (simp only [vcA, seval]; omega)); (· simp only [vcA, seval, vV, nilT]; with_reducible rfl)
    simp only [vcA, seval, vV, byP, byApp, byLen, bySeq, strMk]
end Go.Proofs.YthjphllpkcnehaaGreatDoor
end

section
/- Values of bytes: the program's decoder. No statement of the program is proved here. -/
namespace Go.Proofs.YthjphllpkcnehaaGreatDoor
open Go Go.RowKit Go.Mor Go.Sh Go.Sh.Cd1
set_option maxRecDepth 100000
set_option maxHeartbeats 2000000
def dNum (s : List UInt8) (a lo hi : Int) : Except Int (Int × Int) := match readNum s a with
  | none => .error 10
  | some (n, b) => if n < lo ∨ hi < n then .error 30 else .ok (n, b)
def dText (s : List UInt8) (a : Int) : Except Int (List UInt8 × Int) := match readText s a with
  | none => .error 10
  | some (t, b) => if rightText t then .ok (t, b) else .error 30
def dRest (s : List UInt8) (k b : Int) : Except Int (V × Int) :=
  if k = 1 then match dNum s b (-1000000000000000) 1000000000000000 with
    | .ok (n, c) => .ok (.mk 1 n [] [], c)
    | .error e => .error e
  else if k = 2 then match dText s b with
    | .ok (t, c) => .ok (.mk 2 0 t [], c)
    | .error e => .error e
  else if k = 3 ∨ k = 4 then match dNum s b (-20) 100000 with
    | .ok (n, c) => if n = 0 then .error 30 else .ok (.mk k n [] [], c)
    | .error e => .error e
  else .ok (.mk k 0 [] [], b)
def dVal1 (s : List UInt8) (a : Int) : Except Int (V × Int) := match dNum s a 0 4 with
  | .ok (k, b) => dRest s k b
  | .error e => .error e
def dLoop (s : List UInt8) : Nat → Int → List V → Except Int (List V × Int)
  | 0, a, l => .ok (l, a)
  | n + 1, a, l => match dVal1 s a with
    | .ok (v, b) => dLoop s n b (l ++ [v])
    | .error e => .error e
def dItems (s : List UInt8) (a : Int) : Except Int (List V × Int) := match dNum s a 0 12 with
  | .ok (n, b) => dLoop s n.toNat b []
  | .error e => .error e
def dVal (s : List UInt8) (a : Int) : Except Int (V × Int) := match dNum s a 0 5 with
  | .ok (k, b) => if k = 5 then (match dItems s b with | .ok (l, c) => .ok (.mk 5 0 [] l, c) | .error e => .error e) else dRest s k b
  | .error e => .error e
def dec (s : List UInt8) (a : Int) : MO := .box [S (str s), I a]
def SmallS (s : List UInt8) : Prop := s.length < 1125899906842624
theorem dNum_inv {s : List UInt8} {a lo hi n b : Int} (h : dNum s a lo hi = .ok (n, b)) : readNum s a = some (n, b) ∧ lo ≤ n ∧ n ≤ hi := by
  unfold dNum at h
  split at h
  · cases h
  · rename_i n' b' hr
    split at h
    · cases h
    · cases h; exact ⟨hr, by omega, by omega⟩
theorem dNum_pos {s : List UInt8} {a lo hi n b : Int} (hs : SmallS s) (h : dNum s a lo hi = .ok (n, b)) : I64 b ∧ I64 n := by
  have := readNum_bound (dNum_inv h).1
  unfold SmallS at hs
  unfold I64; omega
theorem number_ok (a0 a1 : Addr) (m : Nat) (s : List UInt8) (a lo hi : Int) (hs : SmallS s) (ha : I64 a) {n b : Int} (h : dNum s a lo hi = .ok (n, b)) :
    SCalls Tryz.prog (gl a0 a1 m) 112 [.ptr 1000 0, I lo, I hi] [dec s a] (.tuple [I n, I 0]) [dec s b] := by
  obtain ⟨hr, h1, h2⟩ := dNum_inv h
  have HR := readNum_ok a0 a1 m s a hs ha
  rw [hr] at HR
  refine call_of hmix tf___val_decoder__number rfl rfl rfl ?_
  simp only [vcA, seval, vV, dec]
  (with_reducible apply v_call); (· simp only [vcA, seval, vV, numTV]; with_reducible rfl); (· exact HR); (· first | rfl | (simp only [vcA, seval]; omega)); (· simp only [vcA, seval, vV, numTV]; with_reducible rfl)
  have l1 : ¬ n < lo := by omega
  have l2 : ¬ hi < n := by omega
  simp only [vcA, seval, vV, l1, l2, dec]
theorem number_err (a0 a1 : Addr) (m : Nat) (s : List UInt8) (a lo hi : Int) (hs : SmallS s) (ha : I64 a) {e : Int} (h : dNum s a lo hi = .error e) :
    SCalls Tryz.prog (gl a0 a1 m) 112 [.ptr 1000 0, I lo, I hi] [dec s a] (.tuple [I 0, I e]) [dec s a] ∧ e ≠ 0 := by
  have HR := readNum_ok a0 a1 m s a hs ha
  unfold dNum at h
  cases hr : readNum s a with
  | none =>
    rw [hr] at h HR; cases h
    refine ⟨call_of hmix tf___val_decoder__number rfl rfl rfl ?_, by decide⟩
    simp only [vcA, seval, vV, dec]
    (with_reducible apply v_call); (· simp only [vcA, seval, vV, numTV]; with_reducible rfl); (· exact HR); (· first | rfl | (simp only [vcA, seval]; omega)); (· simp only [vcA, seval, vV, numTV]; with_reducible rfl)
    simp only [vcA, seval, vV, dec]
  | some q =>
    obtain ⟨n, b⟩ := q
    rw [hr] at h HR
    simp only [] at h
    by_cases hc : n < lo ∨ hi < n
    · rw [if_pos hc] at h; cases h
      refine ⟨call_of hmix tf___val_decoder__number rfl rfl rfl ?_, by decide⟩
      simp only [vcA, seval, vV, dec]
      (with_reducible apply v_call); (· simp only [vcA, seval, vV, numTV]; with_reducible rfl); (· exact HR); (· first | rfl | (simp only [vcA, seval]; omega)); (· simp only [vcA, seval, vV, numTV]; with_reducible rfl)
      by_cases l1 : n < lo
      · simp only [vcA, seval, vV, l1, dec]
      · have l2 : hi < n := by omega
        simp only [vcA, seval, vV, l1, l2, dec]
    · rw [if_neg hc] at h; cases h
theorem dtext_ok (a0 a1 : Addr) (m : Nat) (s : List UInt8) (a : Int) (hs : SmallS s) (ha : I64 a) {t : List UInt8} {b : Int} (h : dText s a = .ok (t, b)) :
    SCalls Tryz.prog (gl a0 a1 m) 113 [.ptr 1000 0] [dec s a] (.tuple [S (str t), I 0]) [dec s b] := by
  have HR := readText_ok a0 a1 m s a hs ha
  unfold dText at h
  cases hr : readText s a with
  | none => rw [hr] at h; cases h
  | some q =>
    obtain ⟨t', b'⟩ := q
    rw [hr] at h HR
    have hb := readText_bound hr
    simp only [] at h
    by_cases hc : rightText t' = true
    · rw [if_pos hc] at h; cases h
      have HT := rightText_ok a0 a1 m t (by omega)
      rw [hc] at HT
      refine call_of hmix tf___val_decoder__text rfl rfl rfl ?_
      simp only [vcA, seval, vV, dec]
      (with_reducible apply v_call); (· simp only [vcA, seval, vV, readTV]; with_reducible rfl); (· exact HR); (· first | rfl | (simp only [vcA, seval]; omega)); (· simp only [vcA, seval, vV, readTV]; with_reducible rfl)
      simp only [vcA, seval, vV, dec]
      (with_reducible apply v_call); (· simp only [vcA, seval, vV]; with_reducible rfl); (· exact HT); (· first | rfl | (simp only [vcA, seval]; omega)); (· simp only [vcA, seval, vV]; with_reducible rfl)
      simp only [vcA, seval, vV, dec]
    · rw [if_neg hc] at h; cases h
theorem dtext_err (a0 a1 : Addr) (m : Nat) (s : List UInt8) (a : Int) (hs : SmallS s) (ha : I64 a) {e : Int} (h : dText s a = .error e) :
    SCalls Tryz.prog (gl a0 a1 m) 113 [.ptr 1000 0] [dec s a] (.tuple [S (str []), I e]) [dec s a] ∧ e ≠ 0 := by
  have HR := readText_ok a0 a1 m s a hs ha
  unfold dText at h
  cases hr : readText s a with
  | none =>
    rw [hr] at h HR; cases h
    refine ⟨call_of hmix tf___val_decoder__text rfl rfl rfl ?_, by decide⟩
    simp only [vcA, seval, vV, dec]
    (with_reducible apply v_call); (· simp only [vcA, seval, vV, readTV]; with_reducible rfl); (· exact HR); (· first | rfl | (simp only [vcA, seval]; omega)); (· simp only [vcA, seval, vV, readTV]; with_reducible rfl)
    simp only [vcA, seval, vV, dec]
    rfl
  | some q =>
    obtain ⟨t', b'⟩ := q
    rw [hr] at h HR
    have hb := readText_bound hr
    simp only [] at h
    by_cases hc : rightText t' = true
    · rw [if_pos hc] at h; cases h
    · rw [if_neg hc] at h; cases h
      have HT := rightText_ok a0 a1 m t' (by omega)
      rw [show rightText t' = false by simpa using hc] at HT
      refine ⟨call_of hmix tf___val_decoder__text rfl rfl rfl ?_, by decide⟩
      simp only [vcA, seval, vV, dec]
      (with_reducible apply v_call); (· simp only [vcA, seval, vV, readTV]; with_reducible rfl); (· exact HR); (· first | rfl | (simp only [vcA, seval]; omega)); (· simp only [vcA, seval, vV, readTV]; with_reducible rfl)
      simp only [vcA, seval, vV, dec]
      (with_reducible apply v_call); (· simp only [vcA, seval, vV]; with_reducible rfl); (· exact HT); (· first | rfl | (simp only [vcA, seval]; omega)); (· simp only [vcA, seval, vV]; with_reducible rfl)
      simp only [vcA, seval, vV, dec]
      rfl
/-- The rest of a value that is no list. -/
theorem value1_ok (a0 a1 : Addr) (m : Nat) (s : List UInt8) (a hi : Int) (hs : SmallS s) (ha : I64 a) {k b c : Int} {v : V} (hk : dNum s a 0 hi = .ok (k, b)) (h5 : k ≠ 5) (h : dRest s k b = .ok (v, c)) :
    SCalls Tryz.prog (gl a0 a1 m) 59 [.ptr 1000 0, I hi] [dec s a] (.tuple [nv v, I 0]) [dec s c] := by
  have HK := number_ok a0 a1 m s a 0 hi hs ha hk
  obtain ⟨hb, hkk⟩ := dNum_pos hs hk
  have hk0 := (dNum_inv hk).2.1
  refine call_of hmix tf___val_decoder__value rfl rfl rfl ?_
  unfold dec at HK ⊢
  simp only [vcA, seval, vV]
  (with_reducible apply v_call); (· simp only [vcA, seval, vV]; with_reducible rfl); (· exact HK); (· first | rfl | (simp only [vcA, seval]; omega)); (· simp only [vcA, seval, vV]; with_reducible rfl)
  unfold dRest at h
  by_cases e1 : k = 1
  · subst e1
    rw [if_pos rfl] at h
    cases hn : dNum s b (-1000000000000000) 1000000000000000 with
    | error e => rw [hn] at h; cases h
    | ok q =>
      obtain ⟨n, c'⟩ := q
      rw [hn] at h; cases h
      have HN := number_ok a0 a1 m s b _ _ hs hb hn
      unfold dec at HN
      simp only [vcA, seval, vV]
      (with_reducible apply v_call); (· simp only [vcA, seval, vV]; with_reducible rfl); (· exact HN); (· first | rfl | (simp only [vcA, seval]; omega)); (· simp only [vcA, seval, vV]; with_reducible rfl)
      simp only [vcA, seval, vV]
      rfl
  rw [if_neg e1] at h
  by_cases e2 : k = 2
  · subst e2
    rw [if_pos rfl] at h
    cases hn : dText s b with
    | error e => rw [hn] at h; cases h
    | ok q =>
      obtain ⟨n, c'⟩ := q
      rw [hn] at h; cases h
      have HN := dtext_ok a0 a1 m s b hs hb hn
      unfold dec at HN
      simp only [vcA, seval, vV]
      (with_reducible apply v_call); (· simp only [vcA, seval, vV]; with_reducible rfl); (· exact HN); (· first | rfl | (simp only [vcA, seval]; omega)); (· simp only [vcA, seval, vV]; with_reducible rfl)
      simp only [vcA, seval, vV]
  rw [if_neg e2] at h
  by_cases e3 : k = 3 ∨ k = 4
  · rw [if_pos e3] at h
    cases hn : dNum s b (-20) 100000 with
    | error e => rw [hn] at h; cases h
    | ok q =>
      obtain ⟨n, c'⟩ := q
      rw [hn] at h
      simp only [] at h
      by_cases hz : n = 0
      · rw [if_pos hz] at h; cases h
      rw [if_neg hz] at h; cases h
      have HN := number_ok a0 a1 m s b _ _ hs hb hn
      unfold dec at HN
      rcases e3 with rfl | rfl
      · simp only [vcA, seval, vV]
        (with_reducible apply v_call); (· simp only [vcA, seval, vV]; with_reducible rfl); (· exact HN); (· first | rfl | (simp only [vcA, seval]; omega)); (· simp only [vcA, seval, vV]; with_reducible rfl)
        simp only [vcA, seval, vV, hz]
        rfl
      · simp only [vcA, seval, vV]
        (with_reducible apply v_call); (· simp only [vcA, seval, vV]; with_reducible rfl); (· exact HN); (· first | rfl | (simp only [vcA, seval]; omega)); (· simp only [vcA, seval, vV]; with_reducible rfl)
        simp only [vcA, seval, vV, hz]
        rfl
  rw [if_neg e3] at h; cases h
  have e3' : ¬ k = 3 := fun h => e3 (.inl h)
  have e4' : ¬ k = 4 := fun h => e3 (.inr h)
  simp only [vcA, seval, vV, e1, e2, e3', e4', h5]
  rfl
theorem value_err0 (a0 a1 : Addr) (m : Nat) (s : List UInt8) (a hi : Int) (hs : SmallS s) (ha : I64 a) {e : Int} (hk : dNum s a 0 hi = .error e) :
    SCalls Tryz.prog (gl a0 a1 m) 59 [.ptr 1000 0, I hi] [dec s a] (.tuple [nv V.nil, I e]) [dec s a] ∧ e ≠ 0 := by
  have HK := number_err a0 a1 m s a 0 hi hs ha hk
  refine ⟨call_of hmix tf___val_decoder__value rfl rfl rfl ?_, HK.2⟩
  unfold dec at HK ⊢
  simp only [vcA, seval, vV]
  (with_reducible apply v_call); (· simp only [vcA, seval, vV]; with_reducible rfl); (· exact HK.1); (· first | rfl | (simp only [vcA, seval]; omega)); (· simp only [vcA, seval, vV]; with_reducible rfl)
  simp only [vcA, seval, vV, HK.2]
  rfl
theorem value1_err (a0 a1 : Addr) (m : Nat) (s : List UInt8) (a hi : Int) (hs : SmallS s) (ha : I64 a) {k b e : Int} (hk : dNum s a 0 hi = .ok (k, b)) (h5 : k ≠ 5) (h : dRest s k b = .error e) :
    (∃ c, SCalls Tryz.prog (gl a0 a1 m) 59 [.ptr 1000 0, I hi] [dec s a] (.tuple [nv V.nil, I e]) [dec s c]) ∧ e ≠ 0 := by
  have HK := number_ok a0 a1 m s a 0 hi hs ha hk
  obtain ⟨hb, hkk⟩ := dNum_pos hs hk
  unfold dRest at h
  by_cases e1 : k = 1
  · subst e1
    rw [if_pos rfl] at h
    cases hn : dNum s b (-1000000000000000) 1000000000000000 with
    | ok q => rw [hn] at h; cases h
    | error e =>
      rw [hn] at h; cases h
      have HN := number_err a0 a1 m s b _ _ hs hb hn
      refine ⟨⟨b, call_of hmix tf___val_decoder__value rfl rfl rfl ?_⟩, HN.2⟩
      unfold dec at HK HN ⊢
      simp only [vcA, seval, vV]
      (with_reducible apply v_call); (· simp only [vcA, seval, vV]; with_reducible rfl); (· exact HK); (· first | rfl | (simp only [vcA, seval]; omega)); (· simp only [vcA, seval, vV]; with_reducible rfl)
      simp only [vcA, seval, vV]
      (with_reducible apply v_call); (· simp only [vcA, seval, vV]; with_reducible rfl); (· exact HN.1); (· first | rfl | (simp only [vcA, seval]; omega)); (· simp only [vcA, seval, vV]; with_reducible rfl)
      simp only [vcA, seval, vV, HN.2]
      rfl
  rw [if_neg e1] at h
  by_cases e2 : k = 2
  · subst e2
    rw [if_pos rfl] at h
    cases hn : dText s b with
    | ok q => rw [hn] at h; cases h
    | error e =>
      rw [hn] at h; cases h
      have HN := dtext_err a0 a1 m s b hs hb hn
      refine ⟨⟨b, call_of hmix tf___val_decoder__value rfl rfl rfl ?_⟩, HN.2⟩
      unfold dec at HK HN ⊢
      simp only [vcA, seval, vV]
      (with_reducible apply v_call); (· simp only [vcA, seval, vV]; with_reducible rfl); (· exact HK); (· first | rfl | (simp only [vcA, seval]; omega)); (· simp only [vcA, seval, vV]; with_reducible rfl)
      simp only [vcA, seval, vV]
      (with_reducible apply v_call); (· simp only [vcA, seval, vV]; with_reducible rfl); (· exact HN.1); (· first | rfl | (simp only [vcA, seval]; omega)); (· simp only [vcA, seval, vV]; with_reducible rfl)
      simp only [vcA, seval, vV, HN.2]
      rfl
  rw [if_neg e2] at h
  by_cases e3 : k = 3 ∨ k = 4
  · rw [if_pos e3] at h
    cases hn : dNum s b (-20) 100000 with
    | error e =>
      rw [hn] at h; cases h
      have HN := number_err a0 a1 m s b _ _ hs hb hn
      refine ⟨⟨b, call_of hmix tf___val_decoder__value rfl rfl rfl ?_⟩, HN.2⟩
      unfold dec at HK HN ⊢
      rcases e3 with rfl | rfl
      · simp only [vcA, seval, vV]
        (with_reducible apply v_call); (· simp only [vcA, seval, vV]; with_reducible rfl); (· exact HK); (· first | rfl | (simp only [vcA, seval]; omega)); (· simp only [vcA, seval, vV]; with_reducible rfl)
        simp only [vcA, seval, vV]
        (with_reducible apply v_call); (· simp only [vcA, seval, vV]; with_reducible rfl); (· exact HN.1); (· first | rfl | (simp only [vcA, seval]; omega)); (· simp only [vcA, seval, vV]; with_reducible rfl)
        simp only [vcA, seval, vV, HN.2]
        rfl
      · simp only [vcA, seval, vV]
        (with_reducible apply v_call); (· simp only [vcA, seval, vV]; with_reducible rfl); (· exact HK); (· first | rfl | (simp only [vcA, seval]; omega)); (· simp only [vcA, seval, vV]; with_reducible rfl)
        simp only [vcA, seval, vV]
        (with_reducible apply v_call); (· simp only [vcA, seval, vV]; with_reducible rfl); (· exact HN.1); (· first | rfl | (simp only [vcA, seval]; omega)); (· simp only [vcA, seval, vV]; with_reducible rfl)
        simp only [vcA, seval, vV, HN.2]
        rfl
    | ok q =>
      obtain ⟨n, c'⟩ := q
      rw [hn] at h
      simp only [] at h
      by_cases hz : n = 0
      · rw [if_pos hz] at h; cases h
        have HN := number_ok a0 a1 m s b _ _ hs hb hn
        refine ⟨⟨c', call_of hmix tf___val_decoder__value rfl rfl rfl ?_⟩, by decide⟩
        unfold dec at HK HN ⊢
        rcases e3 with rfl | rfl
        · simp only [vcA, seval, vV]
          (with_reducible apply v_call); (· simp only [vcA, seval, vV]; with_reducible rfl); (· exact HK); (· first | rfl | (simp only [vcA, seval]; omega)); (· simp only [vcA, seval, vV]; with_reducible rfl)
          simp only [vcA, seval, vV]
          (with_reducible apply v_call); (· simp only [vcA, seval, vV]; with_reducible rfl); (· exact HN); (· first | rfl | (simp only [vcA, seval]; omega)); (· simp only [vcA, seval, vV]; with_reducible rfl)
          simp only [vcA, seval, vV, hz]
          rfl
        · simp only [vcA, seval, vV]
          (with_reducible apply v_call); (· simp only [vcA, seval, vV]; with_reducible rfl); (· exact HK); (· first | rfl | (simp only [vcA, seval]; omega)); (· simp only [vcA, seval, vV]; with_reducible rfl)
          simp only [vcA, seval, vV]
          (with_reducible apply v_call); (· simp only [vcA, seval, vV]; with_reducible rfl); (· exact HN); (· first | rfl | (simp only [vcA, seval]; omega)); (· simp only [vcA, seval, vV]; with_reducible rfl)
          simp only [vcA, seval, vV, hz]
          rfl
      · rw [if_neg hz] at h; cases h
  rw [if_neg e3] at h; cases h
end Go.Proofs.YthjphllpkcnehaaGreatDoor
end

section
/- Reading texts in quotes: the program's way. No statement of the program is proved here. -/
namespace Go.Proofs.YthjphllpkcnehaaGreatDoor
open Go Go.RowKit Go.Mor Go.Sh Go.Sh.Cd1
set_option maxRecDepth 100000
set_option maxHeartbeats 4000000
theorem decodeGo_L {l : List UInt8} (h : l ≠ []) : Lib.decodeGo (str l) = Lib.decodeL l := by
  unfold Lib.decodeGo Lib.decodeL
  rw [if_neg (by rw [str_size']; exact fun h0 => h (List.eq_nil_of_length_eq_zero h0))]
  rfl
theorem decode_low {b : UInt8} {t : List UInt8} (h : (Lib.decodeL (b :: t)).1 < 128) : (Lib.decodeL (b :: t)).1 = b.toNat ∧ (Lib.decodeL (b :: t)).2 = 1 := by
  by_cases hb : b.toNat < 128
  · rw [Lib.decodeL_ascii b t hb]; exact ⟨rfl, rfl⟩
  · rw [Lib.decodeL_N] at h
    have := (rune_lo (b :: t).length ((b :: t).getD 0 0).toNat ((b :: t).getD 1 0).toNat ((b :: t).getD 2 0).toNat ((b :: t).getD 3 0).toNat).2 (by simp; omega)
    omega
theorem decodeL_le4 (l : List UInt8) : (Lib.decodeL l).2 ≤ 4 := by
  rw [Lib.decodeL_N]; unfold Lib.decodeN
  (repeat' split) <;> simp
def quoGo : Nat → List UInt8 → List UInt8 → Nat → List UInt8 × Nat
  | 0, _, _, _ => ([], 0)
  | f + 1, r, t, k =>
    if r = [] ∨ 60 < t.length then ([], 0)
    else if (Lib.decodeL r).1 = 34 then (if rightText t then (t, k + 1) else ([], 0))
    else if (Lib.decodeL r).1 = 92 then (match r.drop 1 with
      | [] => ([], 0)
      | c :: r' => if c.toNat = 34 ∨ c.toNat = 92 then quoGo f r' (t ++ [c]) (k + 2) else ([], 0))
    else quoGo f (r.drop (Lib.decodeL r).2) (t ++ r.take (Lib.decodeL r).2) (k + (Lib.decodeL r).2)
def quoV (l : List UInt8) : List UInt8 × Nat := quoGo l.length (l.drop 1) [] 1
theorem quoGo_nil (f : Nat) (t : List UInt8) (k : Nat) : quoGo f [] t k = ([], 0) := by cases f <;> simp [quoGo]
theorem quoted_ok (a0 a1 : Addr) (m : Nat) (l : List UInt8) (hl : l.length < 1125899906842624) (h1 : 1 ≤ l.length) : SCalls Tryz.prog (gl a0 a1 m) 106 [S (str l)] [] (.tuple [S (str (quoV l).1), I ((quoV l).2 : Int)]) [] := by
  refine call_of0 hmix tf_val_quoted rfl ?_
  have hm : maxLen = 9223372036854775807 := rfl
  simp only [vcA, seval, vV]
  refine v_loop (σ := { q : Nat × List UInt8 × Nat // q.1 ≤ l.length ∧ 1 ≤ q.1 ∧ q.2.1.length ≤ 70 ∧ l.length ≤ q.2.2 + q.1 ∧ quoV l = quoGo q.2.2 (l.drop q.1) q.2.1 q.1 })
    (fun q => ⟨[(0, S (str l)), (4, .own 3000 1 (byR q.1.2.1)), (5, I (q.1.1 : Int))], [], [(3000, (5, 1, q.1.2.1.length))], []⟩)
    (fun q => l.length - q.1.1) ⟨(1, [], l.length), h1, Nat.le_refl _, by simp, by simp, rfl⟩ ?_ ?_
  · refine ES.Lw.trans ?_ (adT_lw (k := 4) (d := 3000) (e := 5) (W := 1) (.inr (by decide)) rfl)
    exact lw_eq rfl
  rintro ⟨⟨k, t, f⟩, hk, hk1, ht, hf, hd⟩
  simp only at hk hk1 ht hf hd
  by_cases hlt : k < l.length
  · have d1 : (k : Int) < (l.length : Int) := by omega
    obtain ⟨f', rfl⟩ : ∃ f', f = f' + 1 := ⟨f - 1, by omega⟩
    have hne : l.drop k ≠ [] := by rw [Ne, List.drop_eq_nil_iff]; omega
    have hle := Lib.decodeL_le (l.drop k) hne
    have hw := Lib.decodeL_width (l.drop k)
    rw [quoGo] at hd
    have tk : List.take (l.length - k) (l.drop k) = l.drop k := List.take_of_length_le (by simp)
    have HD := decodeRune_ok a0 a1 m (str (l.drop k))
    rw [decodeGo_L hne] at HD
    have h4 := decodeL_le4 (l.drop k)
    have hlow : (Lib.decodeL (l.drop k)).1 < 128 → (Lib.decodeL (l.drop k)).2 = 1 := by
      obtain ⟨b, r, hbr⟩ : ∃ b r, l.drop k = b :: r := List.exists_cons_of_ne_nil hne
      rw [hbr]; exact fun h => (decode_low h).2
    rw [List.length_drop] at hle
    by_cases h60 : 60 < t.length
    · rw [if_pos (.inr h60)] at hd
      have d2 : ¬ (t.length : Int) ≤ 60 := by omega
      simp only [vcA, seval, vV, byP, byApp, byLen, bySeq, strMk, d1, d2]
      rw [hd]; rfl
    have d2 : (t.length : Int) ≤ 60 := by omega
    rw [if_neg (by simp only [hne, h60, or_self, not_false_eq_true])] at hd
    have HT := rightText_ok a0 a1 m t (by omega)
    have n0 : (0 : Int) ≤ (k : Int) := by omega
    simp only [vcA, seval, vV, byP, byApp, byLen, bySeq, strMk, d1, d2, hk, tk]
    (with_reducible apply v_call); (· simp only [vcA, seval, vV, byP, byApp, byLen, bySeq, strMk]; with_reducible rfl); (· exact HD); (· first | rfl | (simp only [vcA, seval]; omega)); (· simp only [vcA, seval, vV, byP, byApp, byLen, bySeq, strMk]; with_reducible rfl)
    generalize (Lib.decodeL (l.drop k)).1 = R at hd hlow
    generalize (Lib.decodeL (l.drop k)).2 = Z at hd hlow hle hw h4
    have w1 : IntKind.i64.wrap ((k : Int) + 1) = ((k + 1 : Nat) : Int) := by rw [wrap64 (by omega) (by omega)]; omega
    by_cases r34 : R = 34
    · rw [if_pos r34] at hd
      have d3 : (R : Int) = 34 := by omega
      simp only [vcA, seval, vV, byP, byApp, byLen, bySeq, strMk, d3]
      (with_reducible apply v_call); (· simp only [vcA, seval, vV, byP, byApp, byLen, bySeq, strMk]; with_reducible rfl); (· exact HT); (· first | rfl | (simp only [vcA, seval]; omega)); (· simp only [vcA, seval, vV, byP, byApp, byLen, bySeq, strMk]; with_reducible rfl)
      cases hr : rightText t
      · rw [hr] at hd
        simp only [vcA, seval, vV, byP, byApp, byLen, bySeq, strMk]
        rw [hd]; rfl
      · rw [hr] at hd
        simp only [vcA, seval, vV, byP, byApp, byLen, bySeq, strMk, w1]
        rw [hd]; rfl
    have d3 : ¬ (R : Int) = 34 := by omega
    rw [if_neg r34] at hd
    by_cases r92 : R = 92
    · rw [if_pos r92] at hd
      have d4 : (R : Int) = 92 := by omega
      obtain rfl : Z = 1 := hlow (by omega)
      rw [List.drop_drop] at hd
      by_cases hend : k + 1 = l.length
      · rw [List.drop_eq_nil_of_le (by omega)] at hd
        have d5 : ((k + 1 : Nat) : Int) = (l.length : Int) := by omega
        simp only [vcA, seval, vV, byP, byApp, byLen, bySeq, strMk, d4, w1, d5]
        rw [hd]; rfl
      have d5 : ¬ ((k + 1 : Nat) : Int) = (l.length : Int) := by omega
      obtain ⟨c, ec⟩ : ∃ c, l[k + 1]? = some c := ⟨_, List.getElem?_eq_getElem (by omega)⟩
      have hcons : l.drop (k + 1) = c :: l.drop (k + 2) := by
        rw [List.drop_eq_getElem_cons (by omega)]; congr 1
        rw [List.getElem?_eq_getElem (by omega)] at ec; exact Option.some.inj ec
      rw [hcons] at hd
      simp only [] at hd
      have w2 : IntKind.i64.wrap (((k + 1 : Nat) : Int) + ((1 : Nat) : Int)) = ((k + 2 : Nat) : Int) := by rw [wrap64 (by omega) (by omega)]; omega
      have tk2 : List.take (k + 2 - (k + 1)) (c :: l.drop (k + 2)) = [c] := by rw [show k + 2 - (k + 1) = 1 by omega]; rfl
      have g1 : k + 1 ≤ k + 2 := by omega
      have g2 : k + 2 ≤ l.length := by omega
      by_cases hc : c.toNat = 34 ∨ c.toNat = 92
      · rw [if_pos hc] at hd
        by_cases c34 : c.toNat = 34
        · have d6 : (c.toNat : Int) = 34 := by omega
          simp only [vcA, Nat.reduceLT, Int.reduceEq, Int.reduceAdd, Int.reduceSub, Nat.reduceBEq, Nat.reduceEqDiff, reduceCtorEq, Nat.reduceAdd, Nat.reduceSub, Nat.reduceMul, Nat.reduceLeDiff, Int.reduceToNat, Int.reduceLT, Int.reduceLE, Int.reduceNeg, reduceIte, vV, byP, byApp, byLen, bySeq, strMk, d4, w1, d5, ec, d6, w2, hcons, tk2, g1, g2]
          refine ⟨⟨by omega, by omega⟩, loopK_of ⟨(k + 2, t ++ [c], f'), g2, by show 1 ≤ k + 2; omega, by show (t ++ [c]).length ≤ 70; simp; omega, by show l.length ≤ f' + (k + 2); omega, hd⟩ (by show l.length - (k + 2) < l.length - k; omega) ?_⟩
          apply lw_of <;> simp [leL, lk, sv, Nat.beq, I, S, ES.kill, has, drp, nilT]
        · have d6 : ¬ (c.toNat : Int) = 34 := by omega
          have d7 : (c.toNat : Int) = 92 := by omega
          simp only [vcA, Nat.reduceLT, Int.reduceEq, Int.reduceAdd, Int.reduceSub, Nat.reduceBEq, Nat.reduceEqDiff, reduceCtorEq, Nat.reduceAdd, Nat.reduceSub, Nat.reduceMul, Nat.reduceLeDiff, Int.reduceToNat, Int.reduceLT, Int.reduceLE, Int.reduceNeg, reduceIte, vV, byP, byApp, byLen, bySeq, strMk, d4, w1, d5, ec, d6, d7, w2, hcons, tk2, g1, g2]
          refine ⟨⟨by omega, by omega⟩, loopK_of ⟨(k + 2, t ++ [c], f'), g2, by show 1 ≤ k + 2; omega, by show (t ++ [c]).length ≤ 70; simp; omega, by show l.length ≤ f' + (k + 2); omega, hd⟩ (by show l.length - (k + 2) < l.length - k; omega) ?_⟩
          apply lw_of <;> simp [leL, lk, sv, Nat.beq, I, S, ES.kill, has, drp, nilT]
      · rw [if_neg hc] at hd
        have d6 : ¬ (c.toNat : Int) = 34 := by omega
        have d7 : ¬ (c.toNat : Int) = 92 := by omega
        simp only [vcA, seval, vV, byP, byApp, byLen, bySeq, strMk, d4, w1, d5, ec, d6, d7]
        rw [hd]; rfl
    · rw [if_neg r92, List.drop_drop] at hd
      have d4 : ¬ (R : Int) = 92 := by omega
      have w2 : IntKind.i64.wrap ((k : Int) + (Z : Int)) = ((k + Z : Nat) : Int) := by rw [wrap64 (by omega) (by omega)]; omega
      have tk2 : List.take (k + Z - k) (l.drop k) = (l.drop k).take Z := by rw [show k + Z - k = Z by omega]
      have g1 : k ≤ k + Z := by omega
      have g2 : k + Z ≤ l.length := by omega
      have hlen : ((l.drop k).take Z).length = Z := by rw [List.length_take, List.length_drop]; omega
      generalize (l.drop k).take Z = u at *
      simp only [vcA, seval, vV, byP, byApp, byLen, bySeq, strMk, d3, d4, w2, tk2, g1, g2, hlen]
      refine ⟨⟨by omega, by omega⟩, loopK_of ⟨(k + Z, t ++ u, f'), g2, by show 1 ≤ k + Z; omega, by show (t ++ u).length ≤ 70; rw [List.length_append, hlen]; omega, by show l.length ≤ f' + (k + Z); omega, hd⟩ (by show l.length - (k + Z) < l.length - k; omega) ?_⟩
      apply lw_of <;> simp [leL, lk, sv, Nat.beq, I, S, ES.kill, has, drp, nilT, hlen]
  · have d1 : ¬ (k : Int) < (l.length : Int) := by omega
    rw [List.drop_eq_nil_of_le (by omega), quoGo_nil] at hd
    simp only [vcA, seval, vV, byP, byApp, byLen, bySeq, strMk, d1]
    rw [hd]; rfl
end Go.Proofs.YthjphllpkcnehaaGreatDoor
end

section
/- Reading values: parts. No statement of the program is proved here. -/
namespace Go.Proofs.YthjphllpkcnehaaGreatDoor
open Go Go.RowKit Go.Mor Go.Sh Go.Sh.Cd1
set_option maxRecDepth 100000
set_option maxHeartbeats 4000000
theorem numGo_le (neg : Bool) (lo hi : Int) : ∀ (l : List UInt8) (n best : Int) (size k : Nat), (numGo neg lo hi l n best size k).2 ≤ max size (k + l.length)
  | [], n, best, size, k => by simp [numGo]; omega
  | c :: r, n, best, size, k => by
    have h1 := numGo_le neg lo hi r (10 * n + (c.toNat - 48 : Int)) (if neg then -(10 * n + (c.toNat - 48 : Int)) else 10 * n + (c.toNat - 48 : Int)) (k + 1) (k + 1)
    have h2 := numGo_le neg lo hi r (10 * n + (c.toNat - 48 : Int)) best size (k + 1)
    rw [numGo]
    simp only [List.length_cons]
    by_cases q1 : c.toNat < 48 ∨ 57 < c.toNat
    · rw [if_pos q1]; show size ≤ _; omega
    rw [if_neg q1]
    by_cases q2 : 1000000000000000 < 10 * n + (c.toNat - 48 : Int) ∨ (neg = true ∧ 10 * n + (c.toNat - 48 : Int) = 0)
    · rw [if_pos q2]; show size ≤ _; omega
    rw [if_neg q2]
    generalize (if neg then -(10 * n + (c.toNat - 48 : Int)) else 10 * n + (c.toNat - 48 : Int)) = v at *
    by_cases q3 : lo ≤ v ∧ v ≤ hi
    · rw [if_pos q3]
      by_cases q4 : 10 * n + (c.toNat - 48 : Int) = 0
      · rw [if_pos q4]; show k + 1 ≤ _; omega
      · rw [if_neg q4]; omega
    · rw [if_neg q3]
      by_cases q4 : 10 * n + (c.toNat - 48 : Int) = 0
      · rw [if_pos q4]; show size ≤ _; omega
      · rw [if_neg q4]; omega
theorem first_pos {l : List UInt8} (h : firstR l ≠ 0) : 1 ≤ l.length := by
  cases l with
  | nil => exact absurd rfl h
  | cons b t => simp
theorem numV_le (lo hi : Int) (l : List UInt8) : (numV lo hi l).2 ≤ l.length := by
  unfold numV
  by_cases h : firstR l = 45
  · rw [if_pos h]
    have := numGo_le true lo hi (l.drop 1) 0 0 0 1
    have := first_pos (l := l) (by omega)
    rw [List.length_drop] at *; omega
  · rw [if_neg h]
    have := numGo_le false lo hi l 0 0 0 0
    omega
theorem quoGo_le : ∀ (f : Nat) (r t : List UInt8) (k : Nat), (quoGo f r t k).2 ≤ k + r.length
  | 0, r, t, k => by simp [quoGo]
  | f + 1, r, t, k => by
    rw [quoGo]
    by_cases q1 : r = [] ∨ 60 < t.length
    · rw [if_pos q1]; simp
    rw [if_neg q1]
    have hne : r ≠ [] := fun h => q1 (.inl h)
    have hle := Lib.decodeL_le r hne
    have hpos : 0 < r.length := List.length_pos_iff.2 hne
    by_cases q2 : (Lib.decodeL r).1 = 34
    · rw [if_pos q2]
      by_cases q3 : rightText t = true
      · rw [if_pos q3]; show k + 1 ≤ _; omega
      · rw [if_neg q3]; simp
    rw [if_neg q2]
    by_cases q3 : (Lib.decodeL r).1 = 92
    · rw [if_pos q3]
      cases hr : r.drop 1 with
      | nil => simp
      | cons c r' =>
        have hl : r.length = r'.length + 2 := by
          have := congrArg List.length hr
          rw [List.length_drop, List.length_cons] at this; omega
        simp only []
        by_cases q4 : c.toNat = 34 ∨ c.toNat = 92
        · rw [if_pos q4]
          have := quoGo_le f r' (t ++ [c]) (k + 2)
          omega
        · rw [if_neg q4]; simp
    rw [if_neg q3]
    have := quoGo_le f (r.drop (Lib.decodeL r).2) (t ++ r.take (Lib.decodeL r).2) (k + (Lib.decodeL r).2)
    rw [List.length_drop] at this
    omega
def refV (l : List UInt8) : Int × Nat := if (numV (-20) 100000 (l.drop 1)).1 = 0 then (0, 0) else ((numV (-20) 100000 (l.drop 1)).1, (numV (-20) 100000 (l.drop 1)).2 + 1)
theorem reference_ok (a0 a1 : Addr) (m : Nat) (l : List UInt8) (hl : l.length < 1125899906842624) (h1 : 1 ≤ l.length) : SCalls Tryz.prog (gl a0 a1 m) 107 [S (str l)] [] (.tuple [I (refV l).1, I ((refV l).2 : Int)]) [] := by
  refine call_of0 hmix tf_val_reference rfl ?_
  have HN := vnumber_ok a0 a1 m (l.drop 1) (-20) 100000 (by simp; omega)
  have hz := numV_le (-20) 100000 (l.drop 1)
  unfold refV
  rw [List.length_drop] at hz
  have tk : List.take (l.length - 1) (l.drop 1) = l.drop 1 := List.take_of_length_le (by simp)
  simp only [vcA, seval, vV, h1, tk]
  (with_reducible apply v_call); (· simp only [vcA, seval, vV]; with_reducible rfl); (· exact HN); (· first | rfl | (simp only [vcA, seval]; omega)); (· simp only [vcA, seval, vV]; with_reducible rfl)
  generalize numV (-20) 100000 (l.drop 1) = q at *
  have w1 : IntKind.i64.wrap ((q.2 : Int) + 1) = ((q.2 + 1 : Nat) : Int) := by rw [wrap64 (by omega) (by omega)]; omega
  by_cases h0 : q.1 = 0
  · rw [if_pos h0]
    simp only [vcA, seval, vV, h0]
    all_goals rfl
  · rw [if_neg h0]
    simp only [vcA, seval, vV, h0, w1]
def i32 (r : Int) : TV := .pv (.v (.int .i32 r))
def sgnS (r : Int) (l : List UInt8) : Int := if l ≠ [] ∧ firstR l = r then 1 else 0
theorem mkSign_ok (g : Sh.Glob) (r : Int) : SCalls Tryz.prog g 109 [i32 r] [] (.fn (.func 150) [] [.ptr 1000 0]) [.box [i32 r]] := by
  refine call_of hmix tf_val_sign rfl rfl rfl ?_
  simp only [vcA, seval, vV, i32]
theorem sign1_ok (a0 a1 : Addr) (m : Nat) (l : List UInt8) (r : Int) : SCalls Tryz.prog (gl a0 a1 m) 150 [S (str l), .ptr 1000 0] [.box [i32 r]] (.tuple [nv V.nil, I (sgnS r l)]) [.box [i32 r]] := by
  refine call_of hmix tf_val_sign_1 rfl rfl rfl ?_
  have HF := first_ok a0 a1 m l
  have e0 : (⟨#[]⟩ : ByteArray) = str [] := rfl
  unfold sgnS
  cases l with
  | nil =>
    simp only [vcA, seval, vV, e0, i32, V.nil]
  | cons b t =>
    have hn : ((b :: t) == ([] : List UInt8)) = false := rfl
    simp only [vcA, seval, vV, e0, hn, i32, V.nil]
    (with_reducible apply v_call); (· simp only [vcA, seval, vV]; with_reducible rfl); (· exact HF); (· first | rfl | (simp only [vcA, seval]; omega)); (· simp only [vcA, seval, vV]; with_reducible rfl)
    simp only [vcA, seval, vV]
    exact ⟨fun h => by rw [if_pos h]; rfl, fun h => by rw [if_neg h]; rfl⟩
/-- A value that is no list, or what a list begins with, and how many bytes it has. -/
def partV (l : List UInt8) : V × Nat :=
  if firstR l = 34 then (.mk 2 0 (quoV l).1 [], (quoV l).2)
  else if firstR l = 64 then (.mk 3 (refV l).1 [] [], (refV l).2)
  else if firstR l = 126 then (.mk 4 (refV l).1 [] [], (refV l).2)
  else if firstR l = 91 then (.mk 5 0 [] [], 1)
  else if (numV (-1000000000000000) 1000000000000000 l).2 = 0 then (V.nil, if l ≠ [] ∧ firstR l = 45 then 1 else 0)
  else (.mk 1 (numV (-1000000000000000) 1000000000000000 l).1 [] [], (numV (-1000000000000000) 1000000000000000 l).2)
theorem value_ok (a0 a1 : Addr) (m : Nat) (l : List UInt8) (hl : l.length < 1125899906842624) : SCalls Tryz.prog (gl a0 a1 m) 56 [S (str l)] [] (.tuple [nv (partV l).1, I ((partV l).2 : Int)]) [] := by
  have HF := first_ok a0 a1 m l
  refine call_of0 hmix tf_val_value rfl ?_
  unfold partV
  by_cases f34 : firstR l = 34
  · have HQ := quoted_ok a0 a1 m l hl (first_pos (by omega))
    rw [if_pos f34]
    simp only [vcA, seval, vV]
    (with_reducible apply v_call); (· simp only [vcA, seval, vV]; with_reducible rfl); (· exact HF); (· first | rfl | (simp only [vcA, seval]; omega)); (· simp only [vcA, seval, vV]; with_reducible rfl)
    simp only [vcA, seval, vV, f34]
    (with_reducible apply v_call); (· simp only [vcA, seval, vV]; with_reducible rfl); (· exact HQ); (· first | rfl | (simp only [vcA, seval]; omega)); (· simp only [vcA, seval, vV]; with_reducible rfl)
    simp only [vcA, seval, vV]
  rw [if_neg f34]
  by_cases f64 : firstR l = 64
  · have HQ := reference_ok a0 a1 m l hl (first_pos (by omega))
    rw [if_pos f64]
    simp only [vcA, seval, vV]
    (with_reducible apply v_call); (· simp only [vcA, seval, vV]; with_reducible rfl); (· exact HF); (· first | rfl | (simp only [vcA, seval]; omega)); (· simp only [vcA, seval, vV]; with_reducible rfl)
    simp only [vcA, seval, vV, f64]
    (with_reducible apply v_call); (· simp only [vcA, seval, vV]; with_reducible rfl); (· exact HQ); (· first | rfl | (simp only [vcA, seval]; omega)); (· simp only [vcA, seval, vV]; with_reducible rfl)
    simp only [vcA, seval, vV]
    rfl
  rw [if_neg f64]
  by_cases f126 : firstR l = 126
  · have HQ := reference_ok a0 a1 m l hl (first_pos (by omega))
    rw [if_pos f126]
    simp only [vcA, seval, vV]
    (with_reducible apply v_call); (· simp only [vcA, seval, vV]; with_reducible rfl); (· exact HF); (· first | rfl | (simp only [vcA, seval]; omega)); (· simp only [vcA, seval, vV]; with_reducible rfl)
    simp only [vcA, seval, vV, f126]
    (with_reducible apply v_call); (· simp only [vcA, seval, vV]; with_reducible rfl); (· exact HQ); (· first | rfl | (simp only [vcA, seval]; omega)); (· simp only [vcA, seval, vV]; with_reducible rfl)
    simp only [vcA, seval, vV]
    rfl
  rw [if_neg f126]
  by_cases f91 : firstR l = 91
  · rw [if_pos f91]
    simp only [vcA, seval, vV]
    (with_reducible apply v_call); (· simp only [vcA, seval, vV]; with_reducible rfl); (· exact HF); (· first | rfl | (simp only [vcA, seval]; omega)); (· simp only [vcA, seval, vV]; with_reducible rfl)
    simp only [vcA, seval, vV, f91]
    rfl
  rw [if_neg f91]
  have HN := vnumber_ok a0 a1 m l (-1000000000000000) 1000000000000000 (by omega)
  generalize numV (-1000000000000000) 1000000000000000 l = q at *
  by_cases h0 : q.2 = 0
  · have d0 : (q.2 : Int) = 0 := by omega
    have HM := mkSign_ok (gl a0 a1 m) 45
    have HS := sign1_ok a0 a1 m l 45
    rw [if_pos h0]
    unfold i32 at HM HS
    simp only [vcA, seval, vV]
    (with_reducible apply v_call); (· simp only [vcA, seval, vV]; with_reducible rfl); (· exact HF); (· first | rfl | (simp only [vcA, seval]; omega)); (· simp only [vcA, seval, vV]; with_reducible rfl)
    simp only [vcA, seval, vV, f34, f64, f126, f91]
    (with_reducible apply v_call); (· simp only [vcA, seval, vV]; with_reducible rfl); (· exact HN); (· first | rfl | (simp only [vcA, seval]; omega)); (· simp only [vcA, seval, vV]; with_reducible rfl)
    simp only [vcA, seval, vV, d0]
    (with_reducible apply v_call); (· simp only [vcA, seval, vV]; with_reducible rfl); (· exact HM); (· first | rfl | (simp only [vcA, seval]; omega)); (· simp only [vcA, seval, vV]; with_reducible rfl)
    simp only [vcA, seval, vV]
    unfold nv V.nil at HS
    have hsg : sgnS 45 l = ((if ¬ l = [] ∧ firstR l = 45 then 1 else 0 : Nat) : Int) := by unfold sgnS; split <;> rfl
    rw [hsg] at HS
    (with_reducible apply v_callv); (· simp only [vcA, seval, vV]; with_reducible rfl); (· exact HS); (· rfl); (· simp only [vcA, seval, vV]; with_reducible rfl)
    simp only [vcA, seval, vV]
    rfl
  · have d0 : ¬ (q.2 : Int) = 0 := by omega
    rw [if_neg h0]
    simp only [vcA, seval, vV]
    (with_reducible apply v_call); (· simp only [vcA, seval, vV]; with_reducible rfl); (· exact HF); (· first | rfl | (simp only [vcA, seval]; omega)); (· simp only [vcA, seval, vV]; with_reducible rfl)
    simp only [vcA, seval, vV, f34, f64, f126, f91]
    (with_reducible apply v_call); (· simp only [vcA, seval, vV]; with_reducible rfl); (· exact HN); (· first | rfl | (simp only [vcA, seval]; omega)); (· simp only [vcA, seval, vV]; with_reducible rfl)
    simp only [vcA, seval, vV, d0]
    rfl
theorem reader_ok (g : Sh.Glob) (l : List UInt8) (a : Int) : SCalls Tryz.prog g 55 [S (str l), I a] [] (.fn (.func 104) [] [.ptr 1000 0, .ptr 1001 0]) [.box [S (str l)], .box [I a]] := by
  refine call_of hmix tf_val_reader rfl rfl rfl ?_
  simp only [vcA, seval, vV]
theorem partV_le (l : List UInt8) : (partV l).2 ≤ l.length := by
  have href : 1 ≤ l.length → (refV l).2 ≤ l.length := by
    intro h1
    have := numV_le (-20) 100000 (l.drop 1)
    rw [List.length_drop] at this
    unfold refV
    split
    · simp
    · show _ + 1 ≤ _; omega
  unfold partV
  by_cases f34 : firstR l = 34
  · rw [if_pos f34]
    have h1 := first_pos (l := l) (by omega)
    have := quoGo_le l.length (l.drop 1) [] 1
    rw [List.length_drop] at this
    show (quoV l).2 ≤ _
    unfold quoV; omega
  rw [if_neg f34]
  by_cases f64 : firstR l = 64
  · rw [if_pos f64]; exact href (first_pos (by omega))
  rw [if_neg f64]
  by_cases f126 : firstR l = 126
  · rw [if_pos f126]; exact href (first_pos (by omega))
  rw [if_neg f126]
  by_cases f91 : firstR l = 91
  · rw [if_pos f91]; exact first_pos (by omega)
  rw [if_neg f91]
  have hn := numV_le (-1000000000000000) 1000000000000000 l
  by_cases h0 : (numV (-1000000000000000) 1000000000000000 l).2 = 0
  · rw [if_pos h0]
    show (if l ≠ [] ∧ firstR l = 45 then 1 else 0) ≤ l.length
    split
    · rename_i h; exact first_pos (by omega)
    · simp
  · rw [if_neg h0]; exact hn
/-- A part is taken: a value. -/
theorem takeV_ok (a0 a1 : Addr) (m : Nat) (l : List UInt8) (a : Nat) (hl : l.length < 1125899906842624) (ha : a ≤ l.length) :
    SCalls Tryz.prog (gl a0 a1 m) 104 [.pv (.v (.func (.func 56) #[] #[])), .ptr 1000 0, .ptr 1001 0] [.box [S (str l)], .box [I (a : Int)]]
      (.tuple [nv (partV (l.drop a)).1, I ((a + (partV (l.drop a)).2 : Nat) : Int), .pv (.v (.bool (decide (0 < ((partV (l.drop a)).2 : Int)))))]) [.box [S (str l)], .box [I ((a + (partV (l.drop a)).2 : Nat) : Int)]] := by
  have HV := value_ok a0 a1 m (l.drop a) (by rw [List.length_drop]; omega)
  have hle := partV_le (l.drop a)
  rw [List.length_drop] at hle
  generalize partV (l.drop a) = q at *
  have tk : List.take (l.length - a) (l.drop a) = l.drop a := List.take_of_length_le (by simp)
  have w1 : IntKind.i64.wrap ((a : Int) + (q.2 : Int)) = ((a + q.2 : Nat) : Int) := by rw [wrap64 (by omega) (by omega)]; omega
  refine call_of hmix tf_val_reader_1 rfl rfl rfl ?_
  simp only [vcA, seval, vV, ha, tk]
  (with_reducible apply v_callv); (· simp only [vcA, seval, vV]; with_reducible rfl); (· exact HV); (· rfl); (· simp only [vcA, seval, vV]; with_reducible rfl)
  simp only [vcA, seval, vV, w1]
theorem takeS_ok (a0 a1 : Addr) (m : Nat) (l : List UInt8) (a : Nat) (r : Int) (hl : l.length < 1125899906842624) (ha : a ≤ l.length) :
    SCalls Tryz.prog (gl a0 a1 m) 104 [.fn (.func 150) [] [.ptr 1000 0], .ptr 1001 0, .ptr 1002 0] [.box [i32 r], .box [S (str l)], .box [I (a : Int)]]
      (.tuple [nv V.nil, I ((a : Int) + sgnS r (l.drop a)), .pv (.v (.bool (decide (0 < sgnS r (l.drop a)))))]) [.box [i32 r], .box [S (str l)], .box [I ((a : Int) + sgnS r (l.drop a))]] := by
  have HV := sign1_ok a0 a1 m (l.drop a) r
  have hle : 0 ≤ sgnS r (l.drop a) ∧ sgnS r (l.drop a) ≤ 1 := by unfold sgnS; split <;> decide
  generalize sgnS r (l.drop a) = q at *
  have tk : List.take (l.length - a) (l.drop a) = l.drop a := List.take_of_length_le (by simp)
  have w1 : IntKind.i64.wrap ((a : Int) + q) = (a : Int) + q := wrap64 (by omega) (by omega)
  refine call_of hmix tf_val_reader_1 rfl rfl rfl ?_
  simp only [vcA, seval, vV, ha, tk, i32]
  (with_reducible apply v_callv); (· simp only [vcA, seval, vV, i32, V.nil]; with_reducible rfl); (· exact HV); (· rfl); (· simp only [vcA, seval, vV, i32, V.nil]; with_reducible rfl)
  simp only [vcA, seval, vV, w1, V.nil, i32]
end Go.Proofs.YthjphllpkcnehaaGreatDoor
end

section
/- Numbers that are written are read back. No statement of the program is proved here. -/
namespace Go.Proofs.YthjphllpkcnehaaGreatDoor
open Go Go.Mor
/-- What stands behind a number: no digit. -/
def NoDigit (l : List UInt8) : Prop := ∀ c r, l = c :: r → c.toNat < 48 ∨ 57 < c.toNat
theorem numGo_end (neg : Bool) (lo hi : Int) {l : List UInt8} (h : NoDigit l) (n best : Int) (size k : Nat) : numGo neg lo hi l n best size k = (best, size) := by
  cases l with
  | nil => rfl
  | cons c r => rw [numGo, if_pos (h c r rfl)]
def sv_ (neg : Bool) (n : Int) : Int := if neg then -n else n
/-- One digit is read, behind which there is more than 0. -/
theorem numGo_step (neg : Bool) (lo hi : Int) (d : Nat) (hd : d < 10) (r : List UInt8) (n best : Int) (size k : Nat) (h0 : 0 ≤ n) (hx0 : 0 < 10 * n + d) (hx1 : 10 * n + d ≤ 1000000000000000) :
    ∃ b s, numGo neg lo hi (UInt8.ofNat (48 + d) :: r) n best size k = numGo neg lo hi r (10 * n + d) b s (k + 1) ∧ (lo ≤ sv_ neg (10 * n + d) → sv_ neg (10 * n + d) ≤ hi → b = sv_ neg (10 * n + d) ∧ s = k + 1) := by
  have hc : (UInt8.ofNat (48 + d)).toNat = 48 + d := by rw [UInt8.toNat_ofNat']; omega
  have hx : 10 * n + ((UInt8.ofNat (48 + d)).toNat - 48 : Int) = 10 * n + d := by rw [hc]; omega
  rw [numGo, hx, if_neg (by rw [hc]; omega), if_neg (by omega)]
  have hv : (if neg then -(10 * n + (d : Int)) else 10 * n + d) = sv_ neg (10 * n + d) := rfl
  rw [hv]
  by_cases q : lo ≤ sv_ neg (10 * n + d) ∧ sv_ neg (10 * n + d) ≤ hi
  · rw [if_pos q, if_neg (by omega)]
    exact ⟨_, _, rfl, fun _ _ => ⟨rfl, rfl⟩⟩
  · rw [if_neg q, if_neg (by omega)]
    exact ⟨_, _, rfl, fun h1 h2 => absurd ⟨h1, h2⟩ q⟩
theorem numGo_digits (neg : Bool) (lo hi : Int) : ∀ (m : Nat), 0 < m → m ≤ 1000000000000000 → ∀ (r : List UInt8) (best : Int) (size k : Nat),
    ∃ b s, numGo neg lo hi (Lib.decDigits m ++ r) 0 best size k = numGo neg lo hi r m b s (k + (Lib.decDigits m).length) ∧ (lo ≤ sv_ neg m → sv_ neg m ≤ hi → b = sv_ neg m ∧ s = k + (Lib.decDigits m).length) := by
  intro m
  induction m using Nat.strongRecOn with
  | _ m ih =>
    intro h0 h1 r best size k
    by_cases hm : m < 10
    · rw [Lib.decDigits_one hm]
      obtain ⟨b, s, e, hb⟩ := numGo_step neg lo hi m hm r 0 best size k (by omega) (by omega) (by omega)
      refine ⟨b, s, ?_, ?_⟩
      · simpa using e
      · simpa using hb
    · have e0 : Lib.decDigits m = Lib.decDigits (m / 10) ++ [UInt8.ofNat (48 + m % 10)] := by rw [Lib.decDigits, dif_neg hm]
      obtain ⟨b1, s1, e1, _⟩ := ih (m / 10) (by omega) (by omega) (by omega) (UInt8.ofNat (48 + m % 10) :: r) best size k
      have hmm : 10 * ((m / 10 : Nat) : Int) + ((m % 10 : Nat) : Int) = (m : Int) := by omega
      obtain ⟨b, s, e2, hb⟩ := numGo_step neg lo hi (m % 10) (by omega) r ((m / 10 : Nat) : Int) b1 s1 (k + (Lib.decDigits (m / 10)).length) (by omega) (by rw [hmm]; omega) (by rw [hmm]; omega)
      rw [hmm] at e2 hb
      have hlen : k + (Lib.decDigits m).length = k + (Lib.decDigits (m / 10)).length + 1 := by rw [e0]; simp; omega
      refine ⟨b, s, ?_, ?_⟩
      · rw [hlen, ← e2, ← e1, e0]; simp
      · rw [hlen]; exact hb
theorem decDigits_head (m : Nat) : ∃ c r, Lib.decDigits m = c :: r ∧ 48 ≤ c.toNat ∧ c.toNat ≤ 57 := by
  induction m using Nat.strongRecOn with
  | _ m ih =>
    by_cases hm : m < 10
    · refine ⟨UInt8.ofNat (48 + m), [], Lib.decDigits_one hm, ?_⟩
      rw [UInt8.toNat_ofNat']; omega
    · obtain ⟨c, r, h1, h2⟩ := ih (m / 10) (by omega)
      exact ⟨c, r ++ [UInt8.ofNat (48 + m % 10)], by rw [Lib.decDigits, dif_neg hm, h1]; rfl, h2⟩
theorem firstR_low {b : UInt8} {t : List UInt8} (h : b.toNat < 128) : firstR (b :: t) = b.toNat := by
  unfold firstR
  rw [if_neg (by simp), decodeGo_L (by simp), Lib.decodeL_ascii b t h]
/-- A number that is written is read back. -/
theorem numV_itoa {lo hi n : Int} (h1 : lo ≤ n) (h2 : n ≤ hi) (ha : -1000000000000000 ≤ n) (hb : n ≤ 1000000000000000) {r : List UInt8} (hr : NoDigit r) : numV lo hi (Lib.itoa n ++ r) = (n, (Lib.itoa n).length) := by
  unfold Lib.itoa
  by_cases hn : n < 0
  · rw [if_pos hn]
    unfold numV
    rw [List.cons_append, if_pos (by rw [firstR_low (by decide)]; rfl)]
    obtain ⟨b, s, e, hbs⟩ := numGo_digits true lo hi n.natAbs (by omega) (by omega) r 0 0 1
    have hv : sv_ true (n.natAbs : Int) = n := by show -(n.natAbs : Int) = n; omega
    rw [hv] at hbs
    obtain ⟨eb, es⟩ := hbs h1 h2
    rw [show (45 :: (Lib.decDigits n.natAbs ++ r)).drop 1 = Lib.decDigits n.natAbs ++ r from rfl, e, numGo_end _ _ _ hr, eb, es, List.length_cons, Nat.add_comm]
  · rw [if_neg hn]
    obtain ⟨c, t, hc, hc1, hc2⟩ := decDigits_head n.toNat
    unfold numV
    rw [if_neg (by rw [hc, List.cons_append, firstR_low (by omega)]; omega)]
    by_cases hz : n = 0
    · subst hz
      rw [show (0 : Int).toNat = 0 from rfl, Lib.decDigits_one (by decide), List.singleton_append, numGo]
      simp [UInt8.toNat_ofNat']
      omega
    · obtain ⟨b, s, e, hbs⟩ := numGo_digits false lo hi n.toNat (by omega) (by omega) r 0 0 0
      have hv : sv_ false (n.toNat : Int) = n := by show (n.toNat : Int) = n; omega
      rw [hv] at hbs
      obtain ⟨eb, es⟩ := hbs h1 h2
      rw [e, numGo_end _ _ _ hr, eb, es, Nat.zero_add]
end Go.Proofs.YthjphllpkcnehaaGreatDoor
end

section
/- Texts that are written in quotes are read back. No statement of the program is proved here. -/
namespace Go.Proofs.YthjphllpkcnehaaGreatDoor
open Go Go.Mor
set_option maxHeartbeats 4000000
theorem signN_same {n n' b0 b1 b2 b3 c1 c2 c3 w : Nat} (h : signN n b0 b1 b2 b3 = w) (hw : w ≠ 0) (hn : w ≤ n') (h1 : 2 ≤ w → c1 = b1) (h2 : 3 ≤ w → c2 = b2) (h3 : 4 ≤ w → c3 = b3) : signN n' b0 c1 c2 c3 = w := by
  have key : w = 1 ∨ w = 2 ∨ w = 3 ∨ w = 4 := by unfold signN at h; (repeat' split at h) <;> omega
  rcases key with rfl | rfl | rfl | rfl
  · unfold signN at h ⊢; (repeat' split at h) <;> (repeat' split) <;> omega
  · rw [h1 (by decide)]; unfold signN at h ⊢; (repeat' split at h) <;> (repeat' split) <;> omega
  · rw [h1 (by decide), h2 (by decide)]; unfold signN at h ⊢; (repeat' split at h) <;> (repeat' split) <;> omega
  · rw [h1 (by decide), h2 (by decide), h3 (by decide)]; unfold signN at h ⊢; (repeat' split at h) <;> (repeat' split) <;> omega
theorem signN_hi {n b0 b1 b2 b3 w : Nat} (h : signN n b0 b1 b2 b3 = w) (hw : 2 ≤ w) : 128 ≤ b0 ∧ 128 ≤ b1 ∧ (3 ≤ w → 128 ≤ b2) ∧ (4 ≤ w → 128 ≤ b3) ∧ w ≤ n ∧ w ≤ 4 := by
  unfold signN at h
  (repeat' split at h) <;> refine ⟨?_, ?_, ?_, ?_, ?_, ?_⟩ <;> omega
/-- A text's bytes in quotes. -/
def qs (s : List UInt8) : List UInt8 := s.flatMap fun b => if b.toNat = 34 ∨ b.toNat = 92 then [92, b] else [b]
theorem qs_hi : ∀ {s : List UInt8}, (∀ b ∈ s, 128 ≤ b.toNat) → qs s = s
  | [], _ => rfl
  | b :: s, h => by
    have hb := h b (by simp)
    have ih := qs_hi (s := s) (fun c hc => h c (by simp [hc]))
    unfold qs at ih ⊢
    rw [List.flatMap_cons, if_neg (by omega), ih]; rfl
theorem qs_app (a c : List UInt8) : qs (a ++ c) = qs a ++ qs c := by simp [qs]
theorem signL_width {l : List UInt8} (h : signL l ≠ 0) : (Lib.decodeL l).2 = signL l ∧ l ≠ [] := by
  cases l with
  | nil => exact absurd rfl h
  | cons b t =>
    rw [signL_decode] at h ⊢
    split at h
    · exact absurd rfl h
    · rename_i hc; rw [if_neg hc]; exact ⟨rfl, by simp⟩
theorem getD_lt {l : List UInt8} {i : Nat} (h : i < l.length) : l.getD i 0 = l[i] := by simp [List.getD_eq_getElem?_getD, List.getElem?_eq_getElem h]
/-- A sign that is longer than a byte: its bytes, and what it is whatever stands behind it. -/
theorem long_sign {s : List UInt8} {w : Nat} (h : signL s = w) (hw : 2 ≤ w) (X : List UInt8) : w ≤ s.length ∧ (∀ b ∈ s.take w, 128 ≤ b.toNat) ∧ signL (s.take w ++ X) = w := by
  have hne : s ≠ [] := by rintro rfl; simp [signL] at h; omega
  unfold signL at h
  rw [if_neg hne] at h
  obtain ⟨q0, q1, q2, q3, q4, q5⟩ := signN_hi h hw
  refine ⟨q4, fun b hb => ?_, ?_⟩
  · obtain ⟨i, hi⟩ := List.getElem?_of_mem hb
    have hi1 : i < (s.take w).length := (List.getElem?_eq_some_iff.1 hi).1
    rw [List.length_take] at hi1
    rw [List.getElem?_take_of_lt (by omega)] at hi
    have hg : s.getD i 0 = b := by rw [List.getD_eq_getElem?_getD, hi]; rfl
    rw [← hg]
    have h4 : i = 0 ∨ i = 1 ∨ i = 2 ∨ i = 3 := by omega
    rcases h4 with rfl | rfl | rfl | rfl
    · exact q0
    · exact q1
    · exact q2 (by omega)
    · exact q3 (by omega)
  · have hlen : (s.take w ++ X).length = w + X.length := by rw [List.length_append, List.length_take]; omega
    have hne' : s.take w ++ X ≠ [] := by intro h0; have := congrArg List.length h0; rw [hlen] at this; simp at this; omega
    have hg : ∀ i, i < w → (s.take w ++ X).getD i 0 = s.getD i 0 := by
      intro i hi
      rw [List.getD_eq_getElem?_getD, List.getD_eq_getElem?_getD, List.getElem?_append_left (by rw [List.length_take]; omega), List.getElem?_take_of_lt hi]
    unfold signL
    rw [if_neg hne', hg 0 (by omega)]
    exact signN_same h (by omega) (by rw [hlen]; omega) (fun h2 => by rw [hg 1 (by omega)]) (fun h2 => by rw [hg 2 (by omega)]) (fun h2 => by rw [hg 3 (by omega)])
theorem decode_hi {b : UInt8} {t : List UInt8} (h : 128 ≤ b.toNat) : 128 ≤ (Lib.decodeL (b :: t)).1 := by
  rw [Lib.decodeL_N]
  exact (rune_lo _ _ _ _ _).2 (by simpa using h)
theorem quoGo_qs (post : List UInt8) : ∀ (N : Nat) (s t : List UInt8) (k f : Nat), s.length ≤ N → isText s = true → t.length + s.length ≤ 60 → rightText (t ++ s) = true → (qs s).length < f →
    quoGo f (qs s ++ 34 :: post) t k = (t ++ s, k + (qs s).length + 1) := by
  intro N
  induction N with
  | zero =>
    intro s t k f hN hT h60 hR hf
    have : s = [] := List.eq_nil_of_length_eq_zero (by omega)
    subst this
    obtain ⟨f', rfl⟩ : ∃ f', f = f' + 1 := ⟨f - 1, by omega⟩
    rw [List.append_nil] at hR ⊢
    rw [show qs [] = [] from rfl, List.nil_append, quoGo, if_neg (by simp; simp at h60; omega), Lib.decodeL_ascii 34 post (by decide)]
    simp [hR]
  | succ N ih =>
    intro s t k f hN hT h60 hR hf
    obtain ⟨f', rfl⟩ : ∃ f', f = f' + 1 := ⟨f - 1, by omega⟩
    cases s with
    | nil => exact ih [] t k (f' + 1) (by simp) hT h60 hR hf
    | cons b r0 =>
      rw [isText_cons] at hT
      simp only [Bool.and_eq_true, Bool.not_eq_true', beq_eq_false_iff_ne] at hT
      obtain ⟨⟨⟨t1, t2⟩, t3⟩, t4⟩ := hT
      rw [List.length_cons] at hN h60
      by_cases hb : b.toNat < 128
      · have hw : signL (b :: r0) = 1 := by
          unfold signL signN; rw [if_neg (by simp), if_pos (by simpa using hb)]
        rw [hw, List.drop_one, List.tail_cons] at t4
        have hR' : rightText (t ++ [b] ++ r0) = true := by rw [List.append_assoc]; exact hR
        by_cases he : b.toNat = 34 ∨ b.toNat = 92
        · have hq : qs (b :: r0) = 92 :: b :: qs r0 := by unfold qs; rw [List.flatMap_cons, if_pos he]; rfl
          rw [hq] at hf ⊢
          simp only [List.length_cons] at hf
          rw [List.cons_append, quoGo, if_neg (by simp; omega), Lib.decodeL_ascii 92 _ (by decide)]
          simp only [List.cons_append, List.drop_one, List.tail_cons]
          rw [if_neg (by decide), if_pos (by decide), if_pos he, ih r0 (t ++ [b]) (k + 2) f' (by omega) t4 (by simp; omega) hR' (by omega)]
          simp; omega
        · have hq : qs (b :: r0) = b :: qs r0 := by unfold qs; rw [List.flatMap_cons, if_neg he]; rfl
          rw [hq] at hf ⊢
          simp only [List.length_cons] at hf
          rw [List.cons_append, quoGo, if_neg (by simp; omega), Lib.decodeL_ascii b _ hb]
          simp only [List.drop_one, List.tail_cons, List.take_succ_cons, List.take_zero]
          rw [if_neg (fun h => he (.inl h)), if_neg (fun h => he (.inr h)), ih r0 (t ++ [b]) (k + 1) f' (by omega) t4 (by simp; omega) hR' (by omega)]
          simp; omega
      · generalize hW : signL (b :: r0) = w at *
        have hw2 : 2 ≤ w := by
          unfold signL signN at hW; rw [if_neg (by simp), if_neg (by simpa using hb)] at hW
          (repeat' split at hW) <;> omega
        obtain ⟨g1, g2, g3⟩ := long_sign hW hw2 (qs ((b :: r0).drop w) ++ 34 :: post)
        have hq : qs (b :: r0) = (b :: r0).take w ++ qs ((b :: r0).drop w) := by
          conv => lhs; rw [← List.take_append_drop w (b :: r0)]
          rw [qs_app, qs_hi g2]
        obtain ⟨d1, d2⟩ := signL_width (l := (b :: r0).take w ++ (qs ((b :: r0).drop w) ++ 34 :: post)) (by rw [g3]; omega)
        rw [g3] at d1
        have htl : ((b :: r0).take w).length = w := by rw [List.length_take]; omega
        rw [hq, List.length_append, htl] at hf ⊢
        rw [List.append_assoc, quoGo, if_neg (by simp only [d2, false_or]; omega), d1]
        have hrune : 128 ≤ (Lib.decodeL ((b :: r0).take w ++ (qs ((b :: r0).drop w) ++ 34 :: post))).1 := by
          obtain ⟨w', rfl⟩ : ∃ w', w = w' + 1 := ⟨w - 1, by omega⟩
          rw [List.take_succ_cons, List.cons_append]
          exact decode_hi (by omega)
        rw [if_neg (by omega), if_neg (by omega), List.drop_append_of_le_length (by omega), List.drop_eq_nil_of_le (by omega : ((b :: r0).take w).length ≤ w), List.nil_append,
          List.take_append_of_le_length (by omega), List.take_of_length_le (by omega : ((b :: r0).take w).length ≤ w)]
        have hR' : rightText (t ++ (b :: r0).take w ++ (b :: r0).drop w) = true := by rw [List.append_assoc, List.take_append_drop]; exact hR
        have hdl : ((b :: r0).drop w).length = r0.length + 1 - w := by rw [List.length_drop, List.length_cons]
        rw [ih ((b :: r0).drop w) (t ++ (b :: r0).take w) (k + w) f' (by omega) t4 (by rw [List.length_append, htl, hdl]; rw [List.length_cons] at g1; omega) hR' (by omega)]
        rw [List.append_assoc, List.take_append_drop]
        congr 1; omega
end Go.Proofs.YthjphllpkcnehaaGreatDoor
end

section
/- Values of bytes: lists, and Decode. No statement of the program is proved here. -/
namespace Go.Proofs.YthjphllpkcnehaaGreatDoor
open Go Go.RowKit Go.Mor Go.Sh Go.Sh.Cd1
set_option maxRecDepth 100000
set_option maxHeartbeats 2000000
theorem dVal1_at {s : List UInt8} {a b : Int} {v : V} (hs : SmallS s) (h : dVal1 s a = .ok (v, b)) : I64 b ∧ v.l = [] := by
  unfold dVal1 at h
  cases hk : dNum s a 0 4 with
  | error e => rw [hk] at h; cases h
  | ok q =>
    obtain ⟨k, c⟩ := q
    rw [hk] at h
    have hc := (dNum_pos hs hk).1
    simp only [dRest] at h
    by_cases e1 : k = 1
    · rw [if_pos e1] at h
      cases hn : dNum s c (-1000000000000000) 1000000000000000 with
      | error e => rw [hn] at h; cases h
      | ok q => obtain ⟨n, c'⟩ := q; rw [hn] at h; cases h; exact ⟨(dNum_pos hs hn).1, rfl⟩
    rw [if_neg e1] at h
    by_cases e2 : k = 2
    · rw [if_pos e2] at h
      cases hn : dText s c with
      | error e => rw [hn] at h; cases h
      | ok q =>
        obtain ⟨n, c'⟩ := q
        rw [hn] at h; cases h
        unfold dText at hn
        cases hr : readText s c with
        | none => rw [hr] at hn; cases hn
        | some q =>
          obtain ⟨t', b'⟩ := q
          rw [hr] at hn
          have hb := readText_bound hr
          simp only [] at hn
          by_cases hh : rightText t' = true
          · rw [if_pos hh] at hn; cases hn
            unfold SmallS at hs
            refine ⟨by unfold I64; omega, rfl⟩
          · rw [if_neg hh] at hn; cases hn
    rw [if_neg e2] at h
    by_cases e3 : k = 3 ∨ k = 4
    · rw [if_pos e3] at h
      cases hn : dNum s c (-20) 100000 with
      | error e => rw [hn] at h; cases h
      | ok q =>
        obtain ⟨n, c'⟩ := q
        rw [hn] at h
        simp only [] at h
        by_cases hz : n = 0
        · rw [if_pos hz] at h; cases h
        · rw [if_neg hz] at h; cases h; exact ⟨(dNum_pos hs hn).1, rfl⟩
    rw [if_neg e3] at h; cases h
    exact ⟨hc, rfl⟩
theorem val4_ok (a0 a1 : Addr) (m : Nat) (s : List UInt8) (a : Int) (hs : SmallS s) (ha : I64 a) {v : V} {b : Int} (h : dVal1 s a = .ok (v, b)) :
    SCalls Tryz.prog (gl a0 a1 m) 59 [.ptr 1000 0, I 4] [dec s a] (.tuple [nv v, I 0]) [dec s b] := by
  unfold dVal1 at h
  cases hk : dNum s a 0 4 with
  | error e => rw [hk] at h; cases h
  | ok q =>
    obtain ⟨k, c⟩ := q
    rw [hk] at h
    exact value1_ok a0 a1 m s a 4 hs ha hk (by have := (dNum_inv hk).2; omega) h
theorem val4_err (a0 a1 : Addr) (m : Nat) (s : List UInt8) (a : Int) (hs : SmallS s) (ha : I64 a) {e : Int} (h : dVal1 s a = .error e) :
    (∃ c, SCalls Tryz.prog (gl a0 a1 m) 59 [.ptr 1000 0, I 4] [dec s a] (.tuple [nv V.nil, I e]) [dec s c]) ∧ e ≠ 0 := by
  unfold dVal1 at h
  cases hk : dNum s a 0 4 with
  | error e =>
    rw [hk] at h; cases h
    have := value_err0 a0 a1 m s a 4 hs ha hk
    exact ⟨⟨a, this.1⟩, this.2⟩
  | ok q =>
    obtain ⟨k, c⟩ := q
    rw [hk] at h
    exact value1_err a0 a1 m s a 4 hs ha hk (by have := (dNum_inv hk).2; omega) h
theorem pwk_rowV (l : List V) (v : V) (hv : v.l = []) : PWk (.sl 4 (V.rows l ++ [[.v (.int .i64 v.k), .v (.int .i64 v.n), .v (.string (str v.s)), .v (.slice none 0 0)]])) (.sl 4 (V.rows (l ++ [v]))) := by
  rw [rowsApp, rowNil hv]
  refine pwk_last rfl (fun j c d h1 h2 => ?_)
  match j with
  | 0 => simp at h1 h2; subst h1; subst h2; exact .refl _
  | 1 => simp at h1 h2; subst h1; subst h2; exact .refl _
  | 2 => simp at h1 h2; subst h1; subst h2; exact .refl _
  | 3 => simp at h1 h2; subst h1; subst h2; exact pwk_nil 4
  | j + 4 => simp at h1
theorem items_ok (a0 a1 : Addr) (m : Nat) (s : List UInt8) (a : Int) (hs : SmallS s) (ha : I64 a) {l : List V} {c : Int} (h : dItems s a = .ok (l, c)) :
    SCalls Tryz.prog (gl a0 a1 m) 114 [.ptr 1000 0] [dec s a] (.tuple [.pv (.sl 4 (V.rows l)), I 0]) [dec s c] := by
  unfold dItems at h
  cases hk : dNum s a 0 12 with
  | error e => rw [hk] at h; cases h
  | ok q =>
    obtain ⟨n, b⟩ := q
    rw [hk] at h
    simp only [] at h
    have HK := number_ok a0 a1 m s a 0 12 hs ha hk
    have hb := (dNum_pos hs hk).1
    have hn := (dNum_inv hk).2
    obtain ⟨N, rfl⟩ : ∃ N : Nat, n = N := ⟨n.toNat, by omega⟩
    rw [Int.toNat_natCast] at h
    have hm : maxLen = 9223372036854775807 := rfl
    refine call_of hmix tf___val_decoder__items rfl rfl rfl ?_
    unfold dec at HK ⊢
    simp only [vcA, seval, vV]
    (with_reducible apply v_call); (· simp only [vcA, seval, vV]; with_reducible rfl); (· exact HK); (· first | rfl | (simp only [vcA, seval]; omega)); (· simp only [vcA, seval, vV]; with_reducible rfl)
    simp only [vcA, seval, vV]
    refine v_loop (σ := { q : Nat × Int × List V // q.1 ≤ N ∧ q.2.2.length = q.1 ∧ I64 q.2.1 ∧ dLoop s (N - q.1) q.2.1 q.2.2 = .ok (l, c) })
      (fun q => ⟨[(0, .ptr 1000 0), (6, .own 3000 4 (V.rows q.1.2.2)), (17, I (N : Int)), (18, I (q.1.1 : Int))], [(1000, [S (str s), I q.1.2.1])], [(3000, (42, 4, q.1.1))], []⟩)
      (fun q => N - q.1.1) ⟨(0, b, []), Nat.zero_le _, rfl, hb, h⟩ ?_ ?_
    · refine ES.Lw.trans ?_ (adT_lw (k := 6) (d := 3000) (e := 42) (W := 4) (.inr (by decide)) rfl)
      exact lw_eq rfl
    rintro ⟨⟨i, a', l'⟩, hi, hl, ha', hd⟩
    simp only at hi hl ha' hd
    simp only [vcA, seval, vV]
    refine ⟨fun hlt => ?_, fun hge => ?_⟩
    · obtain ⟨r, hr⟩ : ∃ r, N - i = r + 1 := ⟨N - i - 1, by omega⟩
      have hr' : N - (i + 1) = r := by omega
      rw [hr] at hd
      simp only [dLoop] at hd
      rw [← hr'] at hd
      cases hv : dVal1 s a' with
      | error e => rw [hv] at hd; cases hd
      | ok q =>
      obtain ⟨v, b'⟩ := q
      · have HV := val4_ok a0 a1 m s a' hs ha' hv
        obtain ⟨hb', hvl⟩ := dVal1_at hs hv
        unfold dec at HV
        (with_reducible apply v_call); (· simp only [vcA, seval, vV]; with_reducible rfl); (· exact HV); (· first | rfl | (simp only [vcA, seval]; omega)); (· simp only [vcA, seval, vV]; with_reducible rfl)
        simp only [vcA, seval, vV, hl]
        refine ⟨⟨by omega, by omega⟩, ?_⟩
        refine loopK_of ⟨(i + 1, b', l' ++ [v]), by show i + 1 ≤ N; omega, by simp [hl], hb', by rw [hv] at hd; exact hd⟩ (by show N - (i + 1) < N - i; omega) ?_
        have w1 : IntKind.i64.wrap ((i : Int) + 1) = (i : Int) + 1 := wrap64 (by omega) (by omega)
        refine ES.Lw.trans ?_ (reT_lw (k := 6) (y := .own 3000 4 (V.rows (l' ++ [v]))) rfl (wk_own (by simp [rowsLen]) (pwk_rowV l' v hvl)))
        apply lw_of <;> simp [leL, lk, sv, Nat.beq, I, S, ES.kill, has, drp, nilT, w1]
    · obtain rfl : i = N := by omega
      rw [Nat.sub_self] at hd
      cases hd
      rfl
/-- A loop that stops at a value that is none, at the place c. -/
def Stops (a0 a1 : Addr) (m : Nat) (s : List UInt8) (e c : Int) : Nat → Int → List V → Prop
  | 0, _, _ => False
  | n + 1, a, l => (∃ v b, dVal1 s a = .ok (v, b) ∧ Stops a0 a1 m s e c n b (l ++ [v])) ∨ SCalls Tryz.prog (gl a0 a1 m) 59 [.ptr 1000 0, I 4] [dec s a] (.tuple [nv V.nil, I e]) [dec s c]
theorem dLoop_err (a0 a1 : Addr) (m : Nat) (s : List UInt8) (hs : SmallS s) {e : Int} : ∀ (n : Nat) (a : Int) (l : List V), I64 a → dLoop s n a l = .error e → ∃ c, Stops a0 a1 m s e c n a l ∧ e ≠ 0
  | 0, a, l, _, h => by simp [dLoop] at h
  | n + 1, a, l, ha, h => by
    simp only [dLoop] at h
    cases hv : dVal1 s a with
    | error e' =>
      rw [hv] at h; cases h
      obtain ⟨⟨c, hc⟩, he⟩ := val4_err a0 a1 m s a hs ha hv
      exact ⟨c, .inr hc, he⟩
    | ok q =>
      obtain ⟨v, b⟩ := q
      rw [hv] at h
      obtain ⟨c, hc, he⟩ := dLoop_err a0 a1 m s hs n b (l ++ [v]) (dVal1_at hs hv).1 h
      exact ⟨c, .inl ⟨v, b, hv, hc⟩, he⟩
theorem items_err (a0 a1 : Addr) (m : Nat) (s : List UInt8) (a : Int) (hs : SmallS s) (ha : I64 a) {e : Int} (h : dItems s a = .error e) :
    (∃ c, SCalls Tryz.prog (gl a0 a1 m) 114 [.ptr 1000 0] [dec s a] (.tuple [nilT, I e]) [dec s c]) ∧ e ≠ 0 := by
  unfold dItems at h
  cases hk : dNum s a 0 12 with
  | error e =>
    rw [hk] at h; cases h
    have HK := number_err a0 a1 m s a 0 12 hs ha hk
    refine ⟨⟨a, call_of hmix tf___val_decoder__items rfl rfl rfl ?_⟩, HK.2⟩
    unfold dec at HK ⊢
    simp only [vcA, seval, vV]
    (with_reducible apply v_call); (· simp only [vcA, seval, vV]; with_reducible rfl); (· exact HK.1); (· first | rfl | (simp only [vcA, seval]; omega)); (· simp only [vcA, seval, vV]; with_reducible rfl)
    simp only [vcA, seval, vV, HK.2]
    rfl
  | ok q =>
    obtain ⟨n, b⟩ := q
    rw [hk] at h
    simp only [] at h
    have HK := number_ok a0 a1 m s a 0 12 hs ha hk
    have hb := (dNum_pos hs hk).1
    have hn := (dNum_inv hk).2
    obtain ⟨N, rfl⟩ : ∃ N : Nat, n = N := ⟨n.toNat, by omega⟩
    rw [Int.toNat_natCast] at h
    have hm : maxLen = 9223372036854775807 := rfl
    obtain ⟨c, HE, he⟩ := dLoop_err a0 a1 m s hs N b [] hb h
    refine ⟨⟨c, call_of hmix tf___val_decoder__items rfl rfl rfl ?_⟩, he⟩
    unfold dec at HK ⊢
    simp only [vcA, seval, vV]
    (with_reducible apply v_call); (· simp only [vcA, seval, vV]; with_reducible rfl); (· exact HK); (· first | rfl | (simp only [vcA, seval]; omega)); (· simp only [vcA, seval, vV]; with_reducible rfl)
    simp only [vcA, seval, vV]
    refine v_loop (σ := { q : Nat × Int × List V // q.1 ≤ N ∧ q.2.2.length = q.1 ∧ I64 q.2.1 ∧ Stops a0 a1 m s e c (N - q.1) q.2.1 q.2.2 })
      (fun q => ⟨[(0, .ptr 1000 0), (6, .own 3000 4 (V.rows q.1.2.2)), (17, I (N : Int)), (18, I (q.1.1 : Int))], [(1000, [S (str s), I q.1.2.1])], [(3000, (42, 4, q.1.1))], []⟩)
      (fun q => N - q.1.1) ⟨(0, b, []), Nat.zero_le _, rfl, hb, HE⟩ ?_ ?_
    · refine ES.Lw.trans ?_ (adT_lw (k := 6) (d := 3000) (e := 42) (W := 4) (.inr (by decide)) rfl)
      exact lw_eq rfl
    rintro ⟨⟨i, a', l'⟩, hi, hl, ha', hd⟩
    simp only at hi hl ha' hd
    simp only [vcA, seval, vV]
    refine ⟨fun hlt => ?_, fun hge => ?_⟩
    · obtain ⟨r, hr⟩ : ∃ r, N - i = r + 1 := ⟨N - i - 1, by omega⟩
      have hr' : N - (i + 1) = r := by omega
      rw [hr] at hd
      simp only [Stops] at hd
      rw [← hr'] at hd
      rcases hd with ⟨v, b', hv, hd⟩ | HV
      · have HV := val4_ok a0 a1 m s a' hs ha' hv
        obtain ⟨hb', hvl⟩ := dVal1_at hs hv
        unfold dec at HV
        (with_reducible apply v_call); (· simp only [vcA, seval, vV]; with_reducible rfl); (· exact HV); (· first | rfl | (simp only [vcA, seval]; omega)); (· simp only [vcA, seval, vV]; with_reducible rfl)
        simp only [vcA, seval, vV, hl]
        refine ⟨⟨by omega, by omega⟩, ?_⟩
        refine loopK_of ⟨(i + 1, b', l' ++ [v]), by show i + 1 ≤ N; omega, by simp [hl], hb', hd⟩ (by show N - (i + 1) < N - i; omega) ?_
        have w1 : IntKind.i64.wrap ((i : Int) + 1) = (i : Int) + 1 := wrap64 (by omega) (by omega)
        refine ES.Lw.trans ?_ (reT_lw (k := 6) (y := .own 3000 4 (V.rows (l' ++ [v]))) rfl (wk_own (by simp [rowsLen]) (pwk_rowV l' v hvl)))
        apply lw_of <;> simp [leL, lk, sv, Nat.beq, I, S, ES.kill, has, drp, nilT, w1]
      · unfold dec at HV
        (with_reducible apply v_call); (· simp only [vcA, seval, vV]; with_reducible rfl); (· exact HV); (· first | rfl | (simp only [vcA, seval]; omega)); (· simp only [vcA, seval, vV]; with_reducible rfl)
        simp only [vcA, seval, vV, he, nilT]
    · obtain rfl : i = N := by omega
      rw [Nat.sub_self] at hd
      exact hd.elim
end Go.Proofs.YthjphllpkcnehaaGreatDoor
end

section
/- Reading lists of values: the program's items. No statement of the program is proved here. -/
namespace Go.Proofs.YthjphllpkcnehaaGreatDoor
open Go Go.RowKit Go.Mor Go.Sh Go.Sh.Cd1
set_option maxRecDepth 100000
set_option maxHeartbeats 4000000
theorem partV_l (l : List UInt8) : (partV l).1.l = [] := by
  unfold partV; (repeat' split) <;> rfl
/-- Where a list's next value stands. -/
def nextA (l : List UInt8) (a : Nat) (acc : List V) : Option Nat := if acc = [] then some a else if sgnS 32 (l.drop a) = 1 then some (a + 1) else none
def itemsGo (l : List UInt8) : Nat → Nat → List V → Option (List V × Nat)
  | 0, _, _ => none
  | n + 1, a, acc => if sgnS 93 (l.drop a) = 1 then some (acc, a + 1) else match nextA l a acc with
    | none => none
    | some a' => if (partV (l.drop a')).2 = 0 ∨ (partV (l.drop a')).1.k = 5 ∨ acc.length = 12 then none
      else itemsGo l n (a' + (partV (l.drop a')).2) (acc ++ [(partV (l.drop a')).1])
theorem ritems_ok (a0 a1 : Addr) (m : Nat) (l : List UInt8) (a : Nat) (hl : l.length < 1125899906842624) (ha : a ≤ l.length) {r : List V} {p : Nat} (h : itemsGo l 13 a [] = some (r, p)) :
    SCalls Tryz.prog (gl a0 a1 m) 57 [.fn (.func 104) [] [.ptr 1000 0, .ptr 1001 0]] [.box [S (str l)], .box [I (a : Int)]] (.tuple [.pv (.sl 4 (V.rows r)), I (p : Int), .pv (.v (.bool true))]) [.box [S (str l)], .box [I (p : Int)]] := by
  have hm : maxLen = 9223372036854775807 := rfl
  refine call_of hmix tf_val_items rfl rfl rfl ?_
  simp only [vcA, seval, vV]
  refine v_loop (σ := { q : Nat × Nat × List V // q.2.1 ≤ l.length ∧ q.2.2.length + q.1 = 13 ∧ itemsGo l q.1 q.2.1 q.2.2 = some (r, p) })
    (fun q => ⟨[(0, .fn (.func 104) [] [.ptr 1000 0, .ptr 1001 0]), (5, .own 3000 4 (V.rows q.1.2.2))], [(1000, [S (str l)]), (1001, [I (q.1.2.1 : Int)])], [(3000, (42, 4, q.1.2.2.length))], []⟩)
    (fun q => q.1.1) ⟨(13, a, []), ha, rfl, h⟩ ?_ ?_
  · refine ES.Lw.trans ?_ (adT_lw (k := 5) (d := 3000) (e := 42) (W := 4) (.inr (by decide)) rfl)
    exact lw_eq rfl
  rintro ⟨⟨n, a, acc⟩, ha, hn, hd⟩
  simp only at ha hn hd
  cases n with
  | zero => simp [itemsGo] at hd
  | succ n =>
  rw [itemsGo] at hd
  have M93 := mkSign_ok (gl a0 a1 m) 93
  have M32 := mkSign_ok (gl a0 a1 m) 32
  have T93 := takeS_ok a0 a1 m l a 93 hl ha
  have T32 := takeS_ok a0 a1 m l a 32 hl ha
  have b93 : sgnS 93 (l.drop a) = 0 ∨ sgnS 93 (l.drop a) = 1 := by unfold sgnS; split <;> simp
  have b32 : sgnS 32 (l.drop a) = 0 ∨ sgnS 32 (l.drop a) = 1 := by unfold sgnS; split <;> simp
  simp only [vcA, seval, vV]
  (with_reducible apply v_call); (· simp only [vcA, seval, vV, i32]; with_reducible rfl); (· exact M93); (· first | rfl | (simp only [vcA, seval]; omega)); (· simp only [vcA, seval, vV, i32]; with_reducible rfl)
  by_cases h93 : sgnS 93 (l.drop a) = 1
  · rw [if_pos h93] at hd
    cases hd
    rw [h93] at T93
    (with_reducible apply v_callv); (· simp only [vcA, seval, vV, i32, V.nil]; with_reducible rfl); (· exact T93); (· rfl); (· simp only [vcA, seval, vV, i32, V.nil]; with_reducible rfl)
    simp only [vcA, seval, vV]
    rfl
  · have z93 : sgnS 93 (l.drop a) = 0 := by omega
    rw [if_neg h93] at hd
    rw [z93, Int.add_zero] at T93
    (with_reducible apply v_callv); (· simp only [vcA, seval, vV, i32, V.nil]; with_reducible rfl); (· exact T93); (· rfl); (· simp only [vcA, seval, vV, i32, V.nil]; with_reducible rfl)
    unfold nextA at hd
    by_cases hacc : acc = []
    · rw [if_pos hacc] at hd
      simp only [] at hd
      have hal : acc.length = 0 := by rw [hacc]; rfl
      have d0 : ¬ (0 : Int) < (acc.length : Int) := by omega
      simp only [vcA, seval, vV, d0]
      have HV := takeV_ok a0 a1 m l a hl ha
      have hvl := partV_l (l.drop (a))
      have hple := partV_le (l.drop (a))
      rw [List.length_drop] at hple
      generalize partV (l.drop (a)) = q at *
      by_cases hbad : q.2 = 0 ∨ q.1.k = 5 ∨ acc.length = 12
      · rw [if_pos hbad] at hd; cases hd
      rw [if_neg hbad] at hd
      have d1 : (0 : Int) < (q.2 : Int) := by omega
      have d2 : ¬ q.1.k = 5 := by omega
      have d3 : ¬ (acc.length : Int) = 12 := by omega
      (with_reducible apply v_callv); (· simp only [vcA, seval, vV]; with_reducible rfl); (· exact HV); (· rfl); (· simp only [vcA, seval, vV]; with_reducible rfl)
      simp only [vcA, seval, vV, d1, d2, d3]
      refine ⟨⟨by omega, by omega⟩, ?_⟩
      refine loopK_of ⟨(n, a + q.2, acc ++ [q.1]), by show a + q.2 ≤ l.length; omega, by show (acc ++ [q.1]).length + n = 13; simp; omega, hd⟩ (by show n < n + 1; omega) ?_
      refine ES.Lw.trans ?_ (reT_lw (k := 5) (y := .own 3000 4 (V.rows (acc ++ [q.1]))) rfl (wk_own (by simp [rowsLen]) (pwk_rowV acc q.1 hvl)))
      apply lw_of <;> simp [leL, lk, sv, Nat.beq, I, S, ES.kill, has, drp, nilT]
    · rw [if_neg hacc] at hd
      have hal : 0 < acc.length := List.length_pos_iff.2 hacc
      have d0 : (0 : Int) < (acc.length : Int) := by omega
      by_cases h32 : sgnS 32 (l.drop a) = 1
      · rw [if_pos h32] at hd
        simp only [] at hd
        have ha1 : a + 1 ≤ l.length := by
          have : l.drop a ≠ [] := by
            intro h0
            unfold sgnS at h32
            rw [if_neg (fun h => h.1 h0)] at h32; cases h32
          rw [Ne, List.drop_eq_nil_iff] at this; omega
        rw [h32, show (a : Int) + 1 = ((a + 1 : Nat) : Int) by omega] at T32
        simp only [vcA, seval, vV, d0]
        (with_reducible apply v_call); (· simp only [vcA, seval, vV, i32]; with_reducible rfl); (· exact M32); (· first | rfl | (simp only [vcA, seval]; omega)); (· simp only [vcA, seval, vV, i32]; with_reducible rfl)
        (with_reducible apply v_callv); (· simp only [vcA, seval, vV, i32, V.nil]; with_reducible rfl); (· exact T32); (· rfl); (· simp only [vcA, seval, vV, i32, V.nil]; with_reducible rfl)
        simp only [vcA, seval, vV]
        have HV := takeV_ok a0 a1 m l (a + 1) hl ha1
        have hvl := partV_l (l.drop (a + 1))
        have hple := partV_le (l.drop (a + 1))
        rw [List.length_drop] at hple
        generalize partV (l.drop (a + 1)) = q at *
        by_cases hbad : q.2 = 0 ∨ q.1.k = 5 ∨ acc.length = 12
        · rw [if_pos hbad] at hd; cases hd
        rw [if_neg hbad] at hd
        have d1 : (0 : Int) < (q.2 : Int) := by omega
        have d2 : ¬ q.1.k = 5 := by omega
        have d3 : ¬ (acc.length : Int) = 12 := by omega
        (with_reducible apply v_callv); (· simp only [vcA, seval, vV]; with_reducible rfl); (· exact HV); (· rfl); (· simp only [vcA, seval, vV]; with_reducible rfl)
        simp only [vcA, seval, vV, d1, d2, d3]
        refine ⟨⟨by omega, by omega⟩, ?_⟩
        refine loopK_of ⟨(n, a + 1 + q.2, acc ++ [q.1]), by show a + 1 + q.2 ≤ l.length; omega, by show (acc ++ [q.1]).length + n = 13; simp; omega, hd⟩ (by show n < n + 1; omega) ?_
        refine ES.Lw.trans ?_ (reT_lw (k := 5) (y := .own 3000 4 (V.rows (acc ++ [q.1]))) rfl (wk_own (by simp [rowsLen]) (pwk_rowV acc q.1 hvl)))
        apply lw_of <;> simp [leL, lk, sv, Nat.beq, I, S, ES.kill, has, drp, nilT]
      · rw [if_neg h32] at hd; cases hd
end Go.Proofs.YthjphllpkcnehaaGreatDoor
end

section
/- Decode, walked. No statement of the program is proved here. -/
namespace Go.Proofs.YthjphllpkcnehaaGreatDoor
open Go Go.RowKit Go.Mor Go.Sh Go.Sh.Cd1
set_option maxRecDepth 100000
set_option maxHeartbeats 2000000
theorem wk_tuple2 {a b c : TV} (h : Wk a b) : Wk (.tuple [a, c]) (.tuple [b, c]) := by
  intro w E r v hr
  cases hr with
  | tuple cs vs hl hv =>
    refine .tuple _ vs (by simpa using hl) (fun j d v hd hv' => ?_)
    match j with
    | 0 => simp at hd; subst hd; exact h w E r v (hv 0 _ v rfl hv')
    | 1 => simp at hd; subst hd; exact hv 1 _ v rfl hv'
    | j + 2 => simp at hd
theorem dRest_l {s : List UInt8} {k b c : Int} {v : V} (h : dRest s k b = .ok (v, c)) : v.l = [] := by
  unfold dRest at h
  by_cases e1 : k = 1
  · rw [if_pos e1] at h
    cases hn : dNum s b (-1000000000000000) 1000000000000000 with
    | error e => rw [hn] at h; cases h
    | ok q => rw [hn] at h; cases h; rfl
  rw [if_neg e1] at h
  by_cases e2 : k = 2
  · rw [if_pos e2] at h
    cases hn : dText s b with
    | error e => rw [hn] at h; cases h
    | ok q => rw [hn] at h; cases h; rfl
  rw [if_neg e2] at h
  by_cases e3 : k = 3 ∨ k = 4
  · rw [if_pos e3] at h
    cases hn : dNum s b (-20) 100000 with
    | error e => rw [hn] at h; cases h
    | ok q =>
      obtain ⟨n, c'⟩ := q
      rw [hn] at h
      simp only [] at h
      by_cases hz : n = 0
      · rw [if_pos hz] at h; cases h
      · rw [if_neg hz] at h; cases h; rfl
  rw [if_neg e3] at h; cases h; rfl
theorem val5_ok (a0 a1 : Addr) (m : Nat) (s : List UInt8) (a : Int) (hs : SmallS s) (ha : I64 a) {v : V} {c : Int} (h : dVal s a = .ok (v, c)) :
    SCalls Tryz.prog (gl a0 a1 m) 59 [.ptr 1000 0, I 5] [dec s a] (.tuple [tv v, I 0]) [dec s c] := by
  unfold dVal at h
  cases hk : dNum s a 0 5 with
  | error e => rw [hk] at h; cases h
  | ok q =>
    obtain ⟨k, b⟩ := q
    rw [hk] at h
    simp only [] at h
    by_cases h5 : k = 5
    · rw [if_pos h5] at h
      subst h5
      cases hi : dItems s b with
      | error e => rw [hi] at h; cases h
      | ok q =>
        obtain ⟨l, c'⟩ := q
        rw [hi] at h; cases h
        have HK := number_ok a0 a1 m s a 0 5 hs ha hk
        have HI := items_ok a0 a1 m s b hs (dNum_pos hs hk).1 hi
        refine call_of hmix tf___val_decoder__value rfl rfl rfl ?_
        unfold dec at HK HI ⊢
        simp only [vcA, seval, vV]
        (with_reducible apply v_call); (· simp only [vcA, seval, vV]; with_reducible rfl); (· exact HK); (· first | rfl | (simp only [vcA, seval]; omega)); (· simp only [vcA, seval, vV]; with_reducible rfl)
        simp only [vcA, seval, vV]
        (with_reducible apply v_call); (· simp only [vcA, seval, vV]; with_reducible rfl); (· exact HI); (· first | rfl | (simp only [vcA, seval]; omega)); (· simp only [vcA, seval, vV]; with_reducible rfl)
        simp only [vcA, seval, vV]
        rfl
    · rw [if_neg h5] at h
      exact (value1_ok a0 a1 m s a 5 hs ha hk h5 h).out (wk_tuple2 (nv_tv (dRest_l h)))
theorem val5_err (a0 a1 : Addr) (m : Nat) (s : List UInt8) (a : Int) (hs : SmallS s) (ha : I64 a) {e : Int} (h : dVal s a = .error e) :
    (∃ c, SCalls Tryz.prog (gl a0 a1 m) 59 [.ptr 1000 0, I 5] [dec s a] (.tuple [nv V.nil, I e]) [dec s c]) ∧ e ≠ 0 := by
  unfold dVal at h
  cases hk : dNum s a 0 5 with
  | error e =>
    rw [hk] at h; cases h
    have := value_err0 a0 a1 m s a 5 hs ha hk
    exact ⟨⟨a, this.1⟩, this.2⟩
  | ok q =>
    obtain ⟨k, b⟩ := q
    rw [hk] at h
    simp only [] at h
    by_cases h5 : k = 5
    · rw [if_pos h5] at h
      subst h5
      cases hi : dItems s b with
      | ok q => rw [hi] at h; cases h
      | error e =>
        rw [hi] at h; cases h
        have HK := number_ok a0 a1 m s a 0 5 hs ha hk
        obtain ⟨⟨c, HI⟩, he⟩ := items_err a0 a1 m s b hs (dNum_pos hs hk).1 hi
        refine ⟨⟨c, call_of hmix tf___val_decoder__value rfl rfl rfl ?_⟩, he⟩
        unfold dec at HK HI ⊢
        simp only [vcA, seval, vV]
        (with_reducible apply v_call); (· simp only [vcA, seval, vV]; with_reducible rfl); (· exact HK); (· first | rfl | (simp only [vcA, seval]; omega)); (· simp only [vcA, seval, vV]; with_reducible rfl)
        simp only [vcA, seval, vV]
        (with_reducible apply v_call); (· simp only [vcA, seval, vV, nilT]; with_reducible rfl); (· exact HI); (· first | rfl | (simp only [vcA, seval]; omega)); (· simp only [vcA, seval, vV, nilT]; with_reducible rfl)
        simp only [vcA, seval, vV, he]
        rfl
    · rw [if_neg h5] at h
      exact value1_err a0 a1 m s a 5 hs ha hk h5 h
theorem decode_ok (a0 a1 : Addr) (m : Nat) (s : List UInt8) (a : Int) (hs : SmallS s) (ha : 0 ≤ a) (hb : a ≤ s.length) {v : V} {c : Int} (h : dVal s a = .ok (v, c)) :
    SCalls Tryz.prog (gl a0 a1 m) 21 [S (str s), I a] [] (.tuple [tv v, I c, I 0]) [] := by
  have hs' : s.length < 1125899906842624 := hs
  have HV := val5_ok a0 a1 m s a hs (by unfold I64; omega) h
  refine call_of0 hmix tf_val_Decode rfl ?_
  have l1 : ¬ a < 0 := by omega
  have l2 : ¬ (s.length : Int) < a := by omega
  unfold dec at HV
  simp only [vcA, seval, vV, l1, l2]
  (with_reducible apply v_call); (· simp only [vcA, seval, vV]; with_reducible rfl); (· exact HV); (· first | rfl | (simp only [vcA, seval]; omega)); (· simp only [vcA, seval, vV]; with_reducible rfl)
  simp only [vcA, seval, vV]
theorem decode_err (a0 a1 : Addr) (m : Nat) (s : List UInt8) (a : Int) (hs : SmallS s) (ha : 0 ≤ a) (hb : a ≤ s.length) {e : Int} (h : dVal s a = .error e) :
    SCalls Tryz.prog (gl a0 a1 m) 21 [S (str s), I a] [] (.tuple [nv V.nil, I 0, I e]) [] := by
  have hs' : s.length < 1125899906842624 := hs
  obtain ⟨⟨c, HV⟩, he⟩ := val5_err a0 a1 m s a hs (by unfold I64; omega) h
  refine call_of0 hmix tf_val_Decode rfl ?_
  have l1 : ¬ a < 0 := by omega
  have l2 : ¬ (s.length : Int) < a := by omega
  unfold dec at HV
  simp only [vcA, seval, vV, l1, l2]
  (with_reducible apply v_call); (· simp only [vcA, seval, vV]; with_reducible rfl); (· exact HV); (· first | rfl | (simp only [vcA, seval]; omega)); (· simp only [vcA, seval, vV]; with_reducible rfl)
  simp only [vcA, seval, vV, he]
  rfl
end Go.Proofs.YthjphllpkcnehaaGreatDoor
end

section
/- Reading values: the program's Read, where there is a value. No statement of the program is proved here. -/
namespace Go.Proofs.YthjphllpkcnehaaGreatDoor
open Go Go.RowKit Go.Mor Go.Sh Go.Sh.Cd1
set_option maxRecDepth 100000
set_option maxHeartbeats 4000000
def readV (l : List UInt8) (a : Nat) : Option (V × Nat) :=
  if (partV (l.drop a)).2 = 0 then none
  else if (partV (l.drop a)).1.k = 5 then (match itemsGo l 13 (a + (partV (l.drop a)).2) [] with
    | some (r, p) => some (.mk 5 0 [] r, p)
    | none => none)
  else some ((partV (l.drop a)).1, a + (partV (l.drop a)).2)
theorem partV_5 {l : List UInt8} (h : (partV l).1.k = 5) : (partV l).1 = .mk 5 0 [] [] := by
  unfold partV at h ⊢
  by_cases f34 : firstR l = 34
  · rw [if_pos f34] at h; simp [V.k] at h
  rw [if_neg f34] at h ⊢
  by_cases f64 : firstR l = 64
  · rw [if_pos f64] at h; simp [V.k] at h
  rw [if_neg f64] at h ⊢
  by_cases f126 : firstR l = 126
  · rw [if_pos f126] at h; simp [V.k] at h
  rw [if_neg f126] at h ⊢
  by_cases f91 : firstR l = 91
  · rw [if_pos f91]
  rw [if_neg f91] at h
  by_cases h0 : (numV (-1000000000000000) 1000000000000000 l).2 = 0
  · rw [if_pos h0] at h; simp [V.k, V.nil] at h
  · rw [if_neg h0] at h; simp [V.k] at h
theorem wk_tuple3 {a b c d : TV} (h : Wk a b) : Wk (.tuple [a, c, d]) (.tuple [b, c, d]) := by
  intro w E r v hr
  cases hr with
  | tuple cs vs hl hv =>
    refine .tuple _ vs (by simpa using hl) (fun j x v hd hv' => ?_)
    match j with
    | 0 => simp at hd; subst hd; exact h w E r v (hv 0 _ v rfl hv')
    | 1 => simp at hd; subst hd; exact hv 1 _ v rfl hv'
    | 2 => simp at hd; subst hd; exact hv 2 _ v rfl hv'
    | j + 3 => simp at hd
theorem read_ok (a0 a1 : Addr) (m : Nat) (l : List UInt8) (a : Nat) (hl : l.length < 1125899906842624) (ha : a ≤ l.length) {v : V} {p : Nat} (h : readV l a = some (v, p)) :
    SCalls Tryz.prog (gl a0 a1 m) 18 [S (str l), I (a : Int)] [] (.tuple [tv v, I (p : Int), I 0]) [] := by
  have HR := reader_ok (gl a0 a1 m) l a
  have HT := takeV_ok a0 a1 m l a hl ha
  have hle := partV_le (l.drop a)
  have h5 := fun h => partV_5 (l := l.drop a) h
  have hnl := partV_l (l.drop a)
  rw [List.length_drop] at hle
  have l1 : ¬ (a : Int) < 0 := by omega
  have l2 : ¬ (l.length : Int) < (a : Int) := by omega
  unfold readV at h
  generalize partV (l.drop a) = q at *
  by_cases h0 : q.2 = 0
  · rw [if_pos h0] at h; cases h
  rw [if_neg h0] at h
  have d1 : (0 : Int) < (q.2 : Int) := by omega
  by_cases hk : q.1.k = 5
  · rw [if_pos hk] at h
    have hq := h5 hk
    cases hi : itemsGo l 13 (a + q.2) [] with
    | none => rw [hi] at h; cases h
    | some z =>
      obtain ⟨r, p'⟩ := z
      rw [hi] at h; cases h
      have HI := ritems_ok a0 a1 m l (a + q.2) hl (by omega) hi
      rw [hq] at HT
      refine call_of0 hmix tf_val_Read rfl ?_
      simp only [vcA, seval, vV, l1, l2]
      (with_reducible apply v_call); (· simp only [vcA, seval, vV]; with_reducible rfl); (· exact HR); (· first | rfl | (simp only [vcA, seval]; omega)); (· simp only [vcA, seval, vV]; with_reducible rfl)
      simp only [vcA, seval, vV]
      (with_reducible apply v_callv); (· simp only [vcA, seval, vV]; with_reducible rfl); (· exact HT); (· rfl); (· simp only [vcA, seval, vV]; with_reducible rfl)
      simp only [vcA, seval, vV, d1]
      (with_reducible apply v_call); (· simp only [vcA, seval, vV]; with_reducible rfl); (· exact HI); (· first | rfl | (simp only [vcA, seval]; omega)); (· simp only [vcA, seval, vV]; with_reducible rfl)
      simp only [vcA, seval, vV]
  · rw [if_neg hk] at h; cases h
    refine SCalls.out ?_ (wk_tuple3 (nv_tv hnl))
    refine call_of0 hmix tf_val_Read rfl ?_
    simp only [vcA, seval, vV, l1, l2]
    (with_reducible apply v_call); (· simp only [vcA, seval, vV]; with_reducible rfl); (· exact HR); (· first | rfl | (simp only [vcA, seval]; omega)); (· simp only [vcA, seval, vV]; with_reducible rfl)
    simp only [vcA, seval, vV]
    (with_reducible apply v_callv); (· simp only [vcA, seval, vV]; with_reducible rfl); (· exact HT); (· rfl); (· simp only [vcA, seval, vV]; with_reducible rfl)
    simp only [vcA, seval, vV, d1, hk]
end Go.Proofs.YthjphllpkcnehaaGreatDoor
end

section
/- Values that are written are read back. No statement of the program is proved here. -/
namespace Go.Proofs.YthjphllpkcnehaaGreatDoor
open Go Go.Mor
set_option maxHeartbeats 2000000
theorem quoV_qs {s : List UInt8} (h : rightText s = true) (post : List UInt8) : quoV (34 :: (qs s ++ 34 :: post)) = (s, (qs s).length + 2) := by
  have hl := rightText_len h
  have hT : isText s = true := by
    rw [isText_eq s.length s (Nat.le_refl _)]
    unfold rightText at h; simp only [Bool.and_eq_true] at h; simp [h.2.1, h.2.2]
  unfold quoV
  rw [List.drop_one, List.tail_cons, quoGo_qs post s.length s [] 1 _ (Nat.le_refl _) hT (by simpa using hl) (by simpa using h) (by simp; omega)]
  simp; omega
/-- How a value that is no list is written. -/
def text1 (x : V) : List UInt8 :=
  if x.k = 1 then Lib.itoa x.n else if x.k = 2 then 34 :: (qs x.s ++ [34]) else if x.k = 3 then 64 :: Lib.itoa x.n else if x.k = 4 then 126 :: Lib.itoa x.n else [45]
theorem itoa_head (n : Int) : ∃ c r, Lib.itoa n = c :: r ∧ (c.toNat = 45 ∨ 48 ≤ c.toNat ∧ c.toNat ≤ 57) := by
  unfold Lib.itoa
  by_cases h : n < 0
  · rw [if_pos h]; exact ⟨45, _, rfl, .inl rfl⟩
  · rw [if_neg h]
    obtain ⟨c, r, h1, h2⟩ := decDigits_head n.toNat
    exact ⟨c, r, h1, .inr h2⟩
theorem refV_itoa {c : UInt8} {n : Int} (h : rightID n = true) {r : List UInt8} (hr : NoDigit r) : refV (c :: (Lib.itoa n ++ r)) = (n, (Lib.itoa n).length + 1) := by
  have hid := rightID_inv h
  unfold refV
  rw [List.drop_one, List.tail_cons, numV_itoa (by omega) (by omega) (by omega) (by omega) hr]
  rw [if_neg (by show ¬ n = 0; omega)]
theorem partV_text {x : V} (h : right1 x = true) {post : List UInt8} (hp : NoDigit post) : partV (text1 x ++ post) = (x, (text1 x).length) := by
  rcases right1_inv h with rfl | ⟨n, h1, h2, rfl⟩ | ⟨s, h1, rfl⟩ | ⟨k, n, hk, h1, rfl⟩
  · have ht : text1 (.mk 0 0 [] []) = [45] := rfl
    have hf : firstR (45 :: post) = 45 := firstR_low (by decide)
    rw [ht, List.singleton_append]
    unfold partV
    rw [hf, if_neg (by decide), if_neg (by decide), if_neg (by decide), if_neg (by decide)]
    have hn : numV (-1000000000000000) 1000000000000000 (45 :: post) = (0, 0) := by
      unfold numV; rw [hf, if_pos rfl, List.drop_one, List.tail_cons, numGo_end _ _ _ hp]
    rw [hn, if_pos rfl, if_pos ⟨by simp, rfl⟩]; rfl
  · have ht : text1 (.mk 1 n [] []) = Lib.itoa n := rfl
    obtain ⟨c, r, e, hc⟩ := itoa_head n
    have hf : firstR (Lib.itoa n ++ post) = c.toNat := by rw [e, List.cons_append]; exact firstR_low (by omega)
    rw [ht]
    unfold partV
    rw [hf, if_neg (by omega), if_neg (by omega), if_neg (by omega), if_neg (by omega), numV_itoa h1 h2 h1 h2 hp, if_neg (by rw [e]; simp)]
  · have ht : text1 (.mk 2 0 s []) ++ post = 34 :: (qs s ++ 34 :: post) := by show (34 :: (qs s ++ [34])) ++ post = _; simp
    have hl : (text1 (.mk 2 0 s [])).length = (qs s).length + 2 := by show (34 :: (qs s ++ [34])).length = _; simp
    have hf : firstR (34 :: (qs s ++ 34 :: post)) = 34 := firstR_low (by decide)
    rw [ht, hl]
    unfold partV
    rw [if_pos hf, quoV_qs h1]
  · rcases hk with rfl | rfl
    · have ht : text1 (.mk 3 n [] []) ++ post = 64 :: (Lib.itoa n ++ post) := rfl
      have hl : (text1 (.mk 3 n [] [])).length = (Lib.itoa n).length + 1 := rfl
      have hf : firstR (64 :: (Lib.itoa n ++ post)) = 64 := firstR_low (by decide)
      rw [ht, hl]
      unfold partV
      rw [hf, if_neg (by decide), if_pos rfl, refV_itoa h1 hp]
    · have ht : text1 (.mk 4 n [] []) ++ post = 126 :: (Lib.itoa n ++ post) := rfl
      have hl : (text1 (.mk 4 n [] [])).length = (Lib.itoa n).length + 1 := rfl
      have hf : firstR (126 :: (Lib.itoa n ++ post)) = 126 := firstR_low (by decide)
      rw [ht, hl]
      unfold partV
      rw [hf, if_neg (by decide), if_neg (by decide), if_pos rfl, refV_itoa h1 hp]
theorem text1_pos (x : V) (h : right1 x = true) : 0 < (text1 x).length := by
  have h0 : ∀ n, 0 < (Lib.itoa n).length := fun n => by obtain ⟨c, r, e, _⟩ := itoa_head n; rw [e]; simp
  unfold text1
  (repeat' split) <;> first | exact h0 _ | simp
/-- What stands behind a list's value. -/
def tailT : List V → List UInt8
  | [] => [93]
  | y :: l => 32 :: (text1 y ++ tailT l)
def headT : List V → List UInt8
  | [] => [93]
  | y :: l => text1 y ++ tailT l
theorem tailT_noDigit (l : List V) (post : List UInt8) : NoDigit (tailT l ++ post) := by
  intro c r h
  cases l with
  | nil => simp only [tailT, List.cons_append, List.cons.injEq] at h; rw [← h.1]; decide
  | cons y l => simp only [tailT, List.cons_append, List.cons.injEq] at h; rw [← h.1]; decide
theorem sgnS_low {c : UInt8} {r : List UInt8} (hc : c.toNat < 128) (x : Int) : sgnS x (c :: r) = if (c.toNat : Int) = x then 1 else 0 := by
  unfold sgnS; rw [firstR_low hc]; simp
theorem sgn93_text {y : V} (h : right1 y = true) (X : List UInt8) : sgnS 93 (text1 y ++ X) = 0 := by
  have key : ∃ c r, text1 y = c :: r ∧ c.toNat < 128 ∧ c.toNat ≠ 93 := by
    have hi := fun n => itoa_head n
    rcases right1_inv h with rfl | ⟨n, h1, h2, rfl⟩ | ⟨s, h1, rfl⟩ | ⟨k, n, hk, h1, rfl⟩
    · exact ⟨45, [], rfl, by decide, by decide⟩
    · obtain ⟨c, r, e, hc⟩ := hi n
      exact ⟨c, r, e, by omega, by omega⟩
    · exact ⟨34, _, rfl, by decide, by decide⟩
    · rcases hk with rfl | rfl
      · exact ⟨64, _, rfl, by decide, by decide⟩
      · exact ⟨126, _, rfl, by decide, by decide⟩
  obtain ⟨c, r, e, h1, h2⟩ := key
  rw [e, List.cons_append, sgnS_low h1, if_neg (by omega)]
theorem drop_add {L X Y : List UInt8} {a : Nat} (h : L.drop a = X ++ Y) : L.drop (a + X.length) = Y := by
  rw [← List.drop_drop, h, List.drop_left]
theorem items_tail (L post : List UInt8) : ∀ (l acc : List V) (n a : Nat), (∀ y ∈ l, right1 y = true) → acc ≠ [] → acc.length + l.length ≤ 12 → l.length < n → L.drop a = tailT l ++ post →
    itemsGo L n a acc = some (acc ++ l, a + (tailT l).length)
  | [], acc, n, a, _, hacc, hlen, hn, hd => by
    obtain ⟨n', rfl⟩ : ∃ n', n = n' + 1 := ⟨n - 1, by simp at hn; omega⟩
    rw [itemsGo, hd, tailT, List.singleton_append, sgnS_low (by decide), if_pos (by decide)]
    simp
  | y :: l, acc, n, a, hr, hacc, hlen, hn, hd => by
    obtain ⟨n', rfl⟩ : ∃ n', n = n' + 1 := ⟨n - 1, by simp at hn; omega⟩
    rw [List.length_cons] at hlen hn
    have hry := hr y (by simp)
    rw [tailT, List.cons_append, List.append_assoc] at hd
    have hd1 : L.drop (a + 1) = text1 y ++ (tailT l ++ post) := by
      rw [← List.drop_drop, hd, List.drop_one, List.tail_cons]
    have hpv := partV_text hry (tailT_noDigit l post)
    have hpos := text1_pos y hry
    rw [itemsGo, hd, sgnS_low (by decide), if_neg (by decide)]
    unfold nextA
    rw [if_neg hacc, hd, sgnS_low (by decide), if_pos (by decide)]
    simp only []
    rw [hd1, hpv, if_neg (by show ¬ ((text1 y).length = 0 ∨ y.k = 5 ∨ acc.length = 12); have := (right1_ok hry).2.1; omega)]
    rw [items_tail L post l (acc ++ [y]) n' (a + 1 + (text1 y).length) (fun z hz => hr z (by simp [hz])) (by simp) (by simp; omega) (by omega) (drop_add hd1)]
    simp only [List.append_assoc, List.singleton_append, tailT, List.length_cons, List.length_append]
    congr 2; omega
theorem items_head (L post : List UInt8) (l : List V) (a : Nat) (hr : ∀ y ∈ l, right1 y = true) (hlen : l.length ≤ 12) (hd : L.drop a = headT l ++ post) : itemsGo L 13 a [] = some (l, a + (headT l).length) := by
  cases l with
  | nil =>
    rw [itemsGo, hd, headT, List.singleton_append, sgnS_low (by decide), if_pos (by decide)]
    simp
  | cons y l =>
    rw [List.length_cons] at hlen
    have hry := hr y (by simp)
    rw [headT, List.append_assoc] at hd
    have hpv := partV_text hry (tailT_noDigit l post)
    have hpos := text1_pos y hry
    rw [itemsGo, hd, sgn93_text hry, if_neg (by decide)]
    unfold nextA
    rw [if_pos rfl]
    simp only []
    rw [hd, hpv, if_neg (by show ¬ ((text1 y).length = 0 ∨ y.k = 5 ∨ (0 : Nat) = 12); have := (right1_ok hry).2.1; omega)]
    rw [items_tail L post l ([] ++ [y]) 12 (a + (text1 y).length) (fun z hz => hr z (by simp [hz])) (by simp) (by simp; omega) (by omega) (drop_add hd)]
    simp only [List.nil_append, List.singleton_append, headT, List.length_append]
    congr 2; omega
/-- How a value is written. -/
def textV (x : V) : List UInt8 := if x.k = 5 then 91 :: headT x.l else text1 x
theorem readV_text {x : V} (h : rightV x = true) (pre : List UInt8) {post : List UInt8} (hp : NoDigit post) : readV (pre ++ textV x ++ post) pre.length = some (x, pre.length + (textV x).length) := by
  have hd0 : (pre ++ textV x ++ post).drop pre.length = textV x ++ post := by rw [List.append_assoc, List.drop_left]
  by_cases h5 : x.k = 5
  · obtain ⟨h1, h2, h3, h4⟩ := rightL_inv h h5
    have ht : textV x = 91 :: headT x.l := by unfold textV; rw [if_pos h5]
    have hpv : partV (textV x ++ post) = (.mk 5 0 [] [], 1) := by
      have hf : firstR (91 :: (headT x.l ++ post)) = 91 := firstR_low (by decide)
      rw [ht, List.cons_append]
      unfold partV
      rw [hf, if_neg (by decide), if_neg (by decide), if_neg (by decide), if_pos rfl]
    have hd1 : (pre ++ textV x ++ post).drop (pre.length + 1) = headT x.l ++ post := by
      rw [← List.drop_drop, hd0, ht, List.cons_append, List.drop_one, List.tail_cons]
    unfold readV
    rw [hd0, hpv]
    simp only []
    rw [if_neg (by decide), if_pos (show V.k (.mk 5 0 [] []) = 5 from rfl), items_head _ post x.l _ (fun y hy => (h4 y hy).2) h3 hd1]
    have hx : x = .mk 5 0 [] x.l := by conv => lhs; rw [← V.eta x, h5, h1, h2]
    simp only []
    rw [← hx, ht, List.length_cons]
    congr 2; omega
  · have hr := rightV_one h h5
    have ht : textV x = text1 x := by unfold textV; rw [if_neg h5]
    have hpos := text1_pos x hr
    unfold readV
    rw [hd0, ht, partV_text hr hp, if_neg (by show ¬ (text1 x).length = 0; omega), if_neg h5]
end Go.Proofs.YthjphllpkcnehaaGreatDoor
end

section
/- Texts in quotes are the library's twofold replacement. No statement of the program is proved here. -/
namespace Go.Proofs.YthjphllpkcnehaaGreatDoor
open Go Go.Mor
set_option maxHeartbeats 2000000
theorem index_none1 (c : UInt8) : ∀ (s : List UInt8), c ∉ s → Lib.index s [c] = -1
  | [], _ => rfl
  | b :: l, h => by
    have h1 : ¬ c = b := fun e => h (e ▸ List.mem_cons_self ..)
    have h2 := index_none1 c l (fun hm => h (List.mem_cons_of_mem _ hm))
    unfold Lib.index
    rw [h2]
    have : ([c].isPrefixOf (b :: l)) = false := by simp [List.isPrefixOf, h1]
    rw [this]; rfl
theorem index_at1 (c : UInt8) (post : List UInt8) : ∀ (pre : List UInt8), c ∉ pre → Lib.index (pre ++ c :: post) [c] = pre.length
  | [], _ => by simp [Lib.index, List.isPrefixOf]
  | b :: l, h => by
    have h1 : ¬ c = b := fun e => h (e ▸ List.mem_cons_self ..)
    have h2 := index_at1 c post l (fun hm => h (List.mem_cons_of_mem _ hm))
    show Lib.index (b :: (l ++ c :: post)) [c] = _
    unfold Lib.index
    rw [h2]
    have : ([c].isPrefixOf (b :: (l ++ c :: post))) = false := by simp [List.isPrefixOf, h1]
    rw [this]
    have h3 : ((l.length : Int) == -1) = false := by rw [beq_eq_false_iff_ne]; omega
    simp only [Bool.false_eq_true, if_false, h3, List.length_cons]
    omega
theorem replaceK_one (c : UInt8) (new : List UInt8) : ∀ (fuel : Nat) (s : List UInt8), s.length < fuel → Lib.replaceK [c] new (Lib.countFrom [c] fuel s) s = s.flatMap fun b => if b = c then new else [b]
  | 0, s, h => by omega
  | fuel + 1, s, h => by
    have hplain : ∀ l : List UInt8, c ∉ l → (l.flatMap fun b => if b = c then new else [b]) = l := by
      intro l
      induction l with
      | nil => intro _; rfl
      | cons b l ih =>
        intro hm
        have h1 : ¬ b = c := fun e => hm (e ▸ List.mem_cons_self ..)
        rw [List.flatMap_cons, if_neg h1, ih (fun h => hm (List.mem_cons_of_mem _ h))]; rfl
    by_cases hm : c ∈ s
    · obtain ⟨pre, post, rfl, hpre⟩ := List.eq_append_cons_of_mem hm
      have hi := index_at1 c post pre hpre
      have hne : ¬ (Lib.index (pre ++ c :: post) [c] == -1) = true := by rw [hi, beq_iff_eq]; omega
      unfold Lib.countFrom
      rw [if_neg hne, Nat.add_comm, Lib.replaceK_hit _ _ _ _ pre.length hi, hi]
      have hd : (pre ++ c :: post).drop ((pre.length : Int).toNat + [c].length) = post := by
        rw [Int.toNat_natCast, List.drop_append]
        simp
      have hd' : (pre ++ c :: post).drop (pre.length + [c].length) = post := by
        rw [List.drop_append]; simp
      rw [hd, hd', replaceK_one c new fuel post (by simp at h; omega)]
      rw [List.take_append_of_le_length (Nat.le_refl _), List.take_length, List.flatMap_append, hplain pre hpre, List.flatMap_cons, if_pos rfl, List.append_assoc]
    · unfold Lib.countFrom
      rw [index_none1 c s hm, if_pos (by decide), Lib.replaceK, hplain s hm]
theorem replaceAll_one (c : UInt8) (new : List UInt8) (hne : new ≠ [c]) (s : List UInt8) : Lib.replaceAll s [c] new = s.flatMap fun b => if b = c then new else [b] := by
  unfold Lib.replaceAll Lib.replace Lib.replaceNum Lib.count
  have h1 : ([c] == new) = false := by rw [beq_eq_false_iff_ne]; exact fun h => hne h.symm
  rw [h1, if_neg (by decide), if_pos (Or.inl (by decide))]
  exact replaceK_one c new _ s (by omega)
theorem qs_repl (s : List UInt8) : Lib.replaceAll (Lib.replaceAll s [92] [92, 92]) [34] [92, 34] = qs s := by
  rw [replaceAll_one 34 _ (by decide), replaceAll_one 92 _ (by decide)]
  unfold qs
  rw [List.flatMap_assoc]
  congr 1
  funext b
  by_cases h1 : b = 92
  · subst h1; decide
  · by_cases h2 : b = 34
    · subst h2; decide
    · have e1 : ¬ b.toNat = 34 := fun h => h2 (UInt8.toNat_inj.1 (by rw [h]; rfl))
      have e2 : ¬ b.toNat = 92 := fun h => h1 (UInt8.toNat_inj.1 (by rw [h]; rfl))
      simp [h1, h2, e1, e2]
theorem repl_len (s : List UInt8) : (Lib.replaceAll s [92] [92, 92]).length ≤ 2 * s.length := by
  rw [replaceAll_one 92 _ (by decide)]
  induction s with
  | nil => simp
  | cons b s ih => rw [List.flatMap_cons, List.length_append, List.length_cons]; split <;> simp only [List.length_cons, List.length_nil] <;> omega
theorem qs_len (s : List UInt8) : (qs s).length ≤ 2 * s.length := by
  unfold qs
  induction s with
  | nil => simp
  | cons b s ih => rw [List.flatMap_cons, List.length_append, List.length_cons]; split <;> simp only [List.length_cons, List.length_nil] <;> omega
theorem countFrom_le (c : UInt8) : ∀ (fuel : Nat) (s : List UInt8), Lib.countFrom [c] fuel s ≤ s.length
  | 0, s => by simp [Lib.countFrom]
  | fuel + 1, s => by
    unfold Lib.countFrom
    split
    · omega
    · rename_i h
      have h1 := Lib.index_ge s [c]
      have h2 : Lib.index s [c] ≠ -1 := fun e => h (by rw [e]; rfl)
      have h3 := Lib.index_room s [c] (by omega)
      have := countFrom_le c fuel (s.drop ((Lib.index s [c]).toNat + [c].length))
      simp only [List.length_drop, List.length_singleton] at this h3 ⊢
      omega
theorem countB_one (c : UInt8) (s : List UInt8) : Lib.countB (str s) (str [c]) ≤ s.length := by
  have : Lib.countB (str s) (str [c]) = Lib.count s [c] := by unfold Lib.countB; rw [str_toList, str_toList]
  rw [this]; exact countFrom_le c _ s
/-- A value's text, as the library joins it. -/
theorem headT_join (l : List V) : Lib.join (l.map text1) [32] ++ [93] = headT l := by
  have ht : ∀ l : List V, Lib.joinTail [32] (l.map text1) ++ [93] = tailT l := by
    intro l
    induction l with
    | nil => rfl
    | cons y l ih =>
      simp only [Lib.joinTail, List.map_cons, List.flatten_cons, List.append_assoc] at ih ⊢
      rw [ih]; rfl
  cases l with
  | nil => rfl
  | cons y l => rw [List.map_cons, Lib.join_cons, List.append_assoc, ht]; rfl
theorem text1_len {x : V} (h : right1 x = true) : (text1 x).length ≤ 130 := by
  have key : ∀ n : Int, -1000000000000000 ≤ n → n ≤ 1000000000000000 → (Lib.itoa n).length ≤ 21 := fun n h1 h2 => Lib.itoa_length_le n (by omega) (by omega)
  rcases right1_inv h with rfl | ⟨n, h1, h2, rfl⟩ | ⟨s, h1, rfl⟩ | ⟨k, n, hk, h1, rfl⟩
  · decide
  · have := key n h1 h2
    show (Lib.itoa n).length ≤ _; omega
  · have h3 := qs_len s
    have h4 := rightText_len h1
    show (34 :: (qs s ++ [34])).length ≤ _
    simp; omega
  · have h5 := rightID_inv h1
    have := key n (by omega) (by omega)
    rcases hk with rfl | rfl
    · show (64 :: Lib.itoa n).length ≤ _; simp; omega
    · show (126 :: Lib.itoa n).length ≤ _; simp; omega
theorem tailT_len : ∀ (l : List V), (∀ y ∈ l, right1 y = true) → (tailT l).length ≤ 131 * l.length + 1
  | [], _ => by decide
  | y :: l, h => by
    have h1 := text1_len (h y (List.mem_cons_self ..))
    have h2 := tailT_len l (fun z hz => h z (List.mem_cons_of_mem _ hz))
    show (32 :: (text1 y ++ tailT l)).length ≤ _
    simp; omega
theorem headT_len (l : List V) (h : ∀ y ∈ l, right1 y = true) : (headT l).length ≤ 131 * l.length + 1 := by
  cases l with
  | nil => decide
  | cons y l =>
    have h1 := text1_len (h y (List.mem_cons_self ..))
    have h2 := tailT_len l (fun z hz => h z (List.mem_cons_of_mem _ hz))
    show (text1 y ++ tailT l).length ≤ _
    simp; omega
theorem textV_len {x : V} (h : rightV x = true) : (textV x).length ≤ 2000 := by
  unfold textV
  by_cases h5 : x.k = 5
  · obtain ⟨_, _, h3, h4⟩ := rightL_inv h h5
    have := headT_len x.l (fun y hy => (h4 y hy).2)
    rw [if_pos h5]; simp; omega
  · rw [if_neg h5]
    have := text1_len (rightV_one h h5); omega
theorem textV_inj {x y : V} (hx : rightV x = true) (hy : rightV y = true) (h : textV x = textV y) : x = y := by
  have h1 := readV_text hx [] (post := []) (by intro c r e; cases e)
  have h2 := readV_text hy [] (post := []) (by intro c r e; cases e)
  rw [h, h2] at h1
  have := Option.some.inj h1
  exact (congrArg Prod.fst this).symm
end Go.Proofs.YthjphllpkcnehaaGreatDoor
end

section
/- The document's numbers and texts, walked: Num, Text, Digits, Quoted. No statement of the program is proved here. -/
namespace Go.Proofs.YthjphllpkcnehaaGreatDoor
open Go Go.RowKit Go.Mor Go.Sh Go.Sh.Cd1 Go.Sh.Cd2
set_option maxRecDepth 100000
set_option maxHeartbeats 4000000
theorem pack_last : ∀ (n : Nat) (Q : List UInt8) (b : UInt8), Q.length = n → pack (Q ++ [b]) = Q.map (· + 128) ++ [b]
  | 0, Q, b, h => by rw [List.eq_nil_of_length_eq_zero h]; rfl
  | n + 1, Q, b, h => by
    rcases List.eq_nil_or_concat Q with rfl | ⟨R, c, rfl⟩
    · rfl
    · rw [List.concat_eq_append] at h ⊢
      rw [pack_snoc, pack_last n R c (by simpa using h)]
      unfold bump
      rw [List.dropLast_concat, List.getLast?_concat]
      simp
theorem pack_get {l : List UInt8} {i : Nat} {g : UInt8} (h : l[i]? = some g) : (pack l)[i]? = some (if i + 1 < l.length then g + 128 else g) := by
  have hi := (List.getElem?_eq_some_iff.1 h).1
  rcases List.eq_nil_or_concat l with rfl | ⟨R, c, rfl⟩
  · simp at h
  · rw [List.concat_eq_append] at h hi ⊢
    rw [pack_last _ R c rfl]
    rw [List.length_append, List.length_singleton] at hi ⊢
    by_cases hl : i < R.length
    · rw [if_pos (by omega), List.getElem?_append_left (by simpa using hl), List.getElem?_map]
      rw [List.getElem?_append_left hl] at h
      rw [h]; rfl
    · have : i = R.length := by omega
      subst this
      rw [if_neg (by omega), List.getElem?_append_right (by simp)]
      rw [List.getElem?_append_right (Nat.le_refl _)] at h
      simpa using h
/-- Groups as numbers. -/
def gR (gs : List UInt8) : List (List PV) := gs.map fun u => [.v (.int .i64 (u.toNat : Int))]
theorem gR_len (gs : List UInt8) : (gR gs).length = gs.length := by simp [gR]
theorem gR_get (gs : List UInt8) (i : Nat) : (gR gs)[i]? = (gs[i]?).map fun u => [.v (.int .i64 (u.toNat : Int))] := by simp [gR]
theorem gR_app (gs : List UInt8) (u : UInt8) {x : Int} (h : x = (u.toNat : Int)) : gR gs ++ [[.v (.int .i64 x)]] = gR (gs ++ [u]) := by simp [gR, h]
theorem toNat_ofNat {m : Nat} (h : m < 256) : (UInt8.ofNat m).toNat = m := by simp; omega
theorem byteOf1 (x : Int) : Sh.byteOf [.v (.int .u8 x)] = some (UInt8.ofNat x.toNat) := rfl
theorem strMk' (l : List UInt8) : (⟨l.toArray⟩ : ByteArray) = str l := rfl
theorem add128 (g : UInt8) (h : g.toNat < 128) : UInt8.ofNat (g.toNat + 128) = g + 128 := by
  apply UInt8.toNat_inj.1
  rw [toNat_ofNat (by omega), UInt8.toNat_add]
  show _ = (g.toNat + 128) % 256
  omega
theorem tailN_lt : ∀ (f m : Nat), ∀ u ∈ tailN f m, u.toNat < 128
  | 0, m, u, h => by simp [tailN] at h
  | f + 1, m, u, h => by
    unfold tailN at h
    split at h
    · simp at h
    · rcases List.mem_cons.1 h with rfl | h
      · rw [toNat_ofNat (by omega)]; omega
      · exact tailN_lt f _ u h
theorem groups_lt (n : Int) : ∀ u ∈ groups n, u.toNat < 128 := by
  intro u h
  unfold groups at h
  have hs : sgn n ≤ 1 := by unfold sgn; split <;> omega
  rcases List.mem_cons.1 h with rfl | h
  · rw [toNat_ofNat (by omega)]; omega
  · exact tailN_lt _ _ u h
theorem refNum_ok (g : Sh.Glob) (n : Int) (hn : I64 n) : SCalls Tryz.prog g 115 [I n] [] (S (str (num n))) [] := by
  refine call_of0 hmix tf_moraineref01_Num rfl ?_
  have hm : maxLen = 9223372036854775807 := rfl
  obtain ⟨h0, h1⟩ := hn
  have hs1 : sgn n ≤ 1 := by unfold sgn; split <;> omega
  have hmag : mag n < 9223372036854775808 := by unfold mag; split <;> omega
  -- both loops, from the size and the sign on
  have key : ∀ s0 : ES, (⟨[(3, I (mag n : Int)), (4, I (sgn n : Int))], [], [], []⟩ : ES).Lw s0 →
      swp Tryz.prog g (.seq c_moraineref01_Num_6 (.seq c_moraineref01_Num_7 (.seq (.seq c_moraineref01_Num_8 (.block 0 (.loop c_moraineref01_Num_12))) (.seq c_moraineref01_Num_13 (.seq (.seq c_moraineref01_Num_14 (.block 2 (.loop c_moraineref01_Num_21))) (.seq c_moraineref01_Num_22 .ret))))))
        (Post0 [.tmp 2] (S (str (num n)))) (⟨[(3, I (mag n : Int)), (4, I (sgn n : Int))], [], [], []⟩ : ES) := by
    intro _ _
    have e1 : ((mag n : Int)).tmod 64 = ((mag n % 64 : Nat) : Int) := (Int.ofNat_tmod _ _).symm
    have w1 : IntKind.i64.wrap (2 * ((mag n % 64 : Nat) : Int)) = ((2 * (mag n % 64) : Nat) : Int) := by rw [wrap64 (by omega) (by omega)]; omega
    have w2 : IntKind.i64.wrap (((2 * (mag n % 64) : Nat) : Int) + (sgn n : Int)) = ((mag n % 64 * 2 + sgn n : Nat) : Int) := by rw [wrap64 (by omega) (by omega)]; omega
    have w3 : IntKind.i64.wrap ((mag n : Int).tdiv 64) = ((mag n / 64 : Nat) : Int) := by
      rw [show (mag n : Int).tdiv 64 = ((mag n / 64 : Nat) : Int) from (Int.ofNat_tdiv _ _).symm, wrap64 (by omega) (by omega)]
    simp only [vcA, seval, vV, e1, w1, w2, w3, hm]
    refine v_loop (σ := {p : List UInt8 × Nat × Nat // groups n = p.1 ++ tailN p.2.1 p.2.2 ∧ p.2.2 < 128 ^ p.2.1 ∧ p.2.2 < 9223372036854775808 ∧ p.1.length ≤ 10}) (fun p => ⟨[(3, I (p.1.2.2 : Int)), (5, .own 21 1 (gR p.1.1))], [], [(21, (3, 1, p.1.1.length))], []⟩) (fun p => p.1.2.2)
      ⟨([UInt8.ofNat (mag n % 64 * 2 + sgn n)], 9, mag n / 64), rfl, by show mag n / 64 < 128 ^ 9; omega, by show mag n / 64 < 9223372036854775808; omega, by simp⟩ ?_ ?_
    · simp only [gR, List.map_cons, List.map_nil, toNat_ofNat (show mag n % 64 * 2 + sgn n < 256 by omega), List.length_cons, List.length_nil]
      apply lw_of <;> simp [leL, lk, sv, Nat.beq, I, S, ES.kill, has, drp, nilT]
    rintro ⟨⟨gs, f, m⟩, hg, hlt, hm8, hl10⟩
    simp only at hg hlt hm8 hl10
    by_cases m0 : m = 0
    · subst m0
      rw [tailN_zero, List.append_nil] at hg
      have d1 : ¬ (0 : Int) < ((0 : Nat) : Int) := by omega
      simp only [vcA, seval, vV, d1]
      refine v_loop (σ := {i : Nat // i ≤ gs.length}) (fun i => ⟨[(5, .own 21 1 (gR gs)), (6, S (str ((pack gs).take i.1))), (7, I (i.1 : Int))], [], [(21, (3, 1, gs.length))], []⟩) (fun i => gs.length - i.1) ⟨0, Nat.zero_le _⟩ ?_ ?_
      · rw [List.take_zero, ← e0]; apply lw_of <;> simp [leL, lk, sv, Nat.beq, I, S, ES.kill, has, drp, nilT]
      rintro ⟨i, hi⟩
      have hlen : ((pack gs).take i).length = i := by rw [List.length_take, pack_length]; omega
      by_cases hlt : i < gs.length
      · have d2 : (i : Int) < (gs.length : Int) := by omega
        obtain ⟨u, eu⟩ : ∃ u, gs[i]? = some u := ⟨_, List.getElem?_eq_getElem hlt⟩
        have hu : u.toNat < 128 := groups_lt n u (hg ▸ List.mem_of_getElem? eu)
        have wi : IntKind.i64.wrap ((i : Int) + 1) = ((i + 1 : Nat) : Int) := by rw [wrap64 (by omega) (by omega)]; omega
        have pg := pack_get eu
        have tk := List.take_add_one (l := pack gs) (i := i)
        rw [pg] at tk
        by_cases hlast : i + 1 < gs.length
        · have d3 : ((i + 1 : Nat) : Int) < (gs.length : Int) := by omega
          have wc : IntKind.i64.wrap ((u.toNat : Int) + 128) = ((u.toNat + 128 : Nat) : Int) := by rw [wrap64 (by omega) (by omega)]; omega
          have wb : IntKind.u8.wrap ((u.toNat + 128 : Nat) : Int) = ((u.toNat + 128 : Nat) : Int) := by rw [IntKind.wrap_u8]; omega
          rw [if_pos hlast, ← add128 u hu] at tk
          simp only [vcA, seval, vV, gR_len, gR_get, d2, eu, wi, d3, wc, wb, byteOf1, strMk']
          refine ⟨by rw [hlen]; omega, loopK_of ⟨i + 1, by omega⟩ (by show gs.length - (i + 1) < gs.length - i; omega) ?_⟩
          simp only [tk, Option.toList_some]
          apply lw_of <;> simp [leL, lk, sv, Nat.beq, I, S, ES.kill, has, drp, nilT]
        · have d3 : ¬ ((i + 1 : Nat) : Int) < (gs.length : Int) := by omega
          have wb : IntKind.u8.wrap (u.toNat : Int) = (u.toNat : Int) := by rw [IntKind.wrap_u8]; omega
          rw [if_neg hlast, ← UInt8.ofNat_toNat (x := u)] at tk
          simp only [vcA, seval, vV, gR_len, gR_get, d2, eu, wi, d3, wb, byteOf1, strMk']
          refine ⟨by rw [hlen]; omega, loopK_of ⟨i + 1, by omega⟩ (by show gs.length - (i + 1) < gs.length - i; omega) ?_⟩
          simp only [tk, Option.toList_some]
          apply lw_of <;> simp [leL, lk, sv, Nat.beq, I, S, ES.kill, has, drp, nilT]
      · have d2 : ¬ (i : Int) < (gs.length : Int) := by omega
        obtain rfl : i = gs.length := by omega
        simp only [vcA, seval, vV, gR_len, d2]
        rw [List.take_of_length_le (by rw [pack_length]; omega), ← hg]; rfl
    · have d1 : (0 : Int) < (m : Int) := by omega
      cases f with
      | zero => simp at hlt; omega
      | succ f =>
      have e2 : (m : Int).tmod 128 = ((m % 128 : Nat) : Int) := (Int.ofNat_tmod _ _).symm
      have w4 : IntKind.i64.wrap ((m : Int).tdiv 128) = ((m / 128 : Nat) : Int) := by
        rw [show (m : Int).tdiv 128 = ((m / 128 : Nat) : Int) from (Int.ofNat_tdiv _ _).symm, wrap64 (by omega) (by omega)]
      have ga := gR_app gs (UInt8.ofNat (m % 128)) (x := ((m % 128 : Nat) : Int)) (by rw [toNat_ofNat (by omega)])
      have hgl : gs.length + (tailN (f + 1) m).length ≤ 10 := by have := groups_length n; rw [hg, List.length_append] at this; exact this
      have htl : 0 < (tailN (f + 1) m).length := by unfold tailN; rw [if_neg m0]; simp
      simp only [vcA, seval, vV, d1, e2, w4, ga, gR_len, hm]
      refine ⟨⟨by omega, by omega⟩, loopK_of ⟨(gs ++ [UInt8.ofNat (m % 128)], f, m / 128), ?_, ?_, ?_, ?_⟩ ?_ ?_⟩
      · show _ = _
        rw [hg, tailN, if_neg m0]; simp
      · show m / 128 < 128 ^ f
        rw [Nat.pow_succ] at hlt
        exact Nat.div_lt_of_lt_mul (by rw [Nat.mul_comm]; exact hlt)
      · show m / 128 < 9223372036854775808; omega
      · show (gs ++ [UInt8.ofNat (m % 128)]).length ≤ 10; simp; omega
      · show m / 128 < m; omega
      · simp only [List.length_append, List.length_singleton]
        apply lw_of <;> simp [leL, lk, sv, Nat.beq, I, S, ES.kill, has, drp, nilT]
  by_cases hneg : n < 0
  · have w0 : IntKind.i64.wrap (-1 - n) = (mag n : Int) := by unfold mag; rw [if_pos hneg, wrap64 (by omega) (by omega)]; omega
    have hs : (sgn n : Int) = 1 := by unfold sgn; rw [if_pos hneg]; rfl
    have K := key _ (.refl _)
    rw [hs] at K
    simp only [vcA, seval, vV, hneg, w0]
    simp only [vcA, seval, vV] at K
    exact K
  · have hs : (sgn n : Int) = 0 := by unfold sgn; rw [if_neg hneg]; rfl
    have hmn : (mag n : Int) = n := by unfold mag; rw [if_neg hneg]; omega
    have K := key _ (.refl _)
    rw [hs, hmn] at K
    simp only [vcA, seval, vV, hneg]
    simp only [vcA, seval, vV] at K
    exact K
end Go.Proofs.YthjphllpkcnehaaGreatDoor
end

section
/- Readers of bytes in plain words: what is laid is read back; what is cut off is none. -/
namespace Go.Mor
open Go Go.RowKit
set_option maxHeartbeats 1000000

/-- A reader: of a text and a place, what stands there and the place behind it. -/
abbrev Rd (α : Type) : Type := List UInt8 → Int → Option (α × Int)
def Rd.bind {α β : Type} (r : Rd α) (f : α → Rd β) : Rd β := fun s a => match r s a with | none => none | some (v, b) => f v s b
def Rd.ret {α : Type} (v : α) : Rd α := fun _ a => some (v, a)
def Rd.fail {α : Type} : Rd α := fun _ _ => none
/-- e is read as v, whatever stands around it. -/
def Enc {α : Type} (r : Rd α) (e : List UInt8) (v : α) : Prop := ∀ pre post : List UInt8, r (pre ++ e ++ post) pre.length = some (v, ((pre.length + e.length : Nat) : Int))
/-- What is cut off is none; what is not is as it was. -/
def Cuts {α : Type} (r : Rd α) : Prop := ∀ (s : List UInt8) (a : Int) (v : α) (b : Int) (k : Nat), r s a = some (v, b) → a ≤ k → a ≤ b ∧ (b ≤ k → r (s.take k) a = some (v, b)) ∧ (k < b → r (s.take k) a = none)
theorem Enc.bind {α β : Type} {r : Rd α} {f : α → Rd β} {e1 e2 : List UInt8} {v1 : α} {v2 : β} (h1 : Enc r e1 v1) (h2 : Enc (f v1) e2 v2) : Enc (r.bind f) (e1 ++ e2) v2 := by
  intro pre post
  have a := h1 pre (e2 ++ post)
  have b := h2 (pre ++ e1) post
  rw [show pre ++ (e1 ++ e2) ++ post = pre ++ e1 ++ (e2 ++ post) by simp, Rd.bind, a]
  simp only [List.append_assoc, List.length_append] at b ⊢
  rw [b]
  congr 3; omega
theorem Enc.ret {α : Type} (v : α) : Enc (Rd.ret v) [] v := fun pre post => by simp [Rd.ret]
theorem Cuts.bind {α β : Type} {r : Rd α} {f : α → Rd β} (h1 : Cuts r) (h2 : ∀ v, Cuts (f v)) : Cuts (r.bind f) := by
  intro s a v b k h hk
  unfold Rd.bind at h ⊢
  cases hr : r s a with
  | none => rw [hr] at h; cases h
  | some p =>
    obtain ⟨v1, b1⟩ := p
    rw [hr] at h
    dsimp only at h
    obtain ⟨g1, g2, g3⟩ := h1 s a v1 b1 k hr hk
    by_cases hb : b1 ≤ k
    · obtain ⟨j1, j2, j3⟩ := h2 v1 s b1 v b k h hb
      rw [g2 hb]
      exact ⟨by omega, j2, j3⟩
    · obtain ⟨j1, _, _⟩ := h2 v1 s b1 v b b1.toNat h (by omega)
      rw [g3 (by omega)]
      exact ⟨by omega, fun h => by omega, fun _ => rfl⟩
theorem Cuts.ret {α : Type} (v : α) : Cuts (Rd.ret v) := by
  intro s a v' b k h hk
  simp only [Rd.ret, Option.some.injEq, Prod.mk.injEq] at h ⊢
  obtain ⟨rfl, rfl⟩ := h
  exact ⟨by omega, fun _ => ⟨rfl, rfl⟩, fun h => by omega⟩
theorem Cuts.fail {α : Type} : Cuts (Rd.fail (α := α)) := fun s a v b k h => by cases h
theorem Cuts.ite {α : Type} {c : Bool} {r q : Rd α} (h1 : Cuts r) (h2 : Cuts q) : Cuts (if c = true then r else q) := by cases c <;> simpa
/-- Bytes that begin others tell what those tell. -/
theorem Enc.begins {α : Type} {r : Rd α} {e e' : List UInt8} {v v' : α} (h : Enc r e v) (h' : Enc r e' v') (hp : e <+: e') : v = v' := by
  obtain ⟨t, rfl⟩ := hp
  have a := h [] t
  have b := h' [] []
  simp at a b
  rw [a] at b
  simp at b
  exact b.1
theorem Enc.cut {α : Type} {r : Rd α} {e : List UInt8} {v : α} (h : Enc r e v) (hc : Cuts r) (k : Nat) (hk : k < e.length) : r (e.take k) 0 = none := by
  have a := h [] []
  simp at a
  exact (hc e 0 v _ k a (by omega)).2.2 (by omega)

/-! Numbers. -/
def cont : List UInt8 → List UInt8
  | [] => []
  | [g] => [g]
  | g :: r => (g + 128) :: cont r
theorem cont_snoc (l : List UInt8) (g : UInt8) : cont (l ++ [g]) = l.map (· + 128) ++ [g] := by
  induction l with
  | nil => rfl
  | cons a r ih =>
    cases r with
    | nil => rfl
    | cons b q => simp only [List.cons_append, cont, List.map_cons] at ih ⊢; rw [ih]
theorem pack_cont (l : List UInt8) : pack l = cont l := by
  rcases List.eq_nil_or_concat l with rfl | ⟨q, g, rfl⟩
  · rfl
  · rw [List.concat_eq_append, cont_snoc]
    have : ∀ (n : Nat) (q : List UInt8) (g : UInt8), q.length = n → pack (q ++ [g]) = q.map (· + 128) ++ [g] := by
      intro n
      induction n with
      | zero => intro q g hq; obtain rfl := List.eq_nil_of_length_eq_zero hq; rfl
      | succ n ih =>
        intro q g hq
        rcases List.eq_nil_or_concat q with rfl | ⟨p, a, rfl⟩
        · simp at hq
        · rw [List.concat_eq_append] at hq ⊢
          rw [pack_snoc, ih p a (by simp at hq; omega), bump_snoc]
          simp
    exact this q.length q g rfl
theorem cont_length (l : List UInt8) : (cont l).length = l.length := by rw [← pack_cont, pack_length]
theorem u8_lt (b : UInt8) : b.toNat < 256 := b.toNat_lt
theorem rdGo_last {k : Nat} {b : UInt8} (st : Nat × Nat) (r : List UInt8) (hk : k ≠ 0) (h0 : b.toNat ≠ 0) (h9 : k = 9 → b.toNat ≤ 1) (hb : b.toNat < 128) : rdGo k st (b :: r) = .ok (st.1 + b.toNat * 2 ^ (7 * k - 1), st.2, k + 1) := by
  rw [rdGo, if_neg (by rintro ⟨_, h | ⟨h, h'⟩⟩ <;> omega)]
  simp only [hk, if_false, hb, if_true, Nat.mod_eq_of_lt hb]
theorem rdGo_more {k : Nat} {b : UInt8} (st : Nat × Nat) (r : List UInt8) (hk : k ≠ 0) (h9 : k ≠ 9) (hb : 128 ≤ b.toNat) : rdGo k st (b :: r) = rdGo (k + 1) (st.1 + b.toNat % 128 * 2 ^ (7 * k - 1), st.2) r := by
  rw [rdGo, if_neg (by rintro ⟨_, h | ⟨h, h'⟩⟩ <;> omega)]
  have : ¬ b.toNat < 128 := by omega
  simp only [hk, if_false, this]
theorem rdGo_last0 {b : UInt8} (st : Nat × Nat) (r : List UInt8) (hb : b.toNat < 128) : rdGo 0 st (b :: r) = .ok (b.toNat / 2, b.toNat % 2, 1) := by
  rw [rdGo, if_neg (by simp)]
  simp only [if_true, hb, Nat.mod_eq_of_lt hb]
theorem rdGo_more0 {b : UInt8} (st : Nat × Nat) (r : List UInt8) (hb : 128 ≤ b.toNat) : rdGo 0 st (b :: r) = rdGo 1 (b.toNat % 128 / 2, b.toNat % 128 % 2) r := by
  rw [rdGo, if_neg (by simp)]
  have : ¬ b.toNat < 128 := by omega
  simp only [if_true, this, if_false]
theorem rdGo_tail : ∀ (f k : Nat) (st : Nat × Nat) (m : Nat) (rest : List UInt8), m ≠ 0 → 1 ≤ k → k + f = 10 → m < 2 ^ (64 - 7 * k) →
    rdGo k st (cont (tailN f m) ++ rest) = .ok (st.1 + m * 2 ^ (7 * k - 1), st.2, k + (tailN f m).length) := by
  intro f
  induction f with
  | zero => intro k st m rest hm h1 h2 h3; obtain rfl : k = 10 := by omega
            simp at h3; omega
  | succ f ih =>
    intro k st m rest hm h1 h2 h3
    have hb : (UInt8.ofNat (m % 128)).toNat = m % 128 := by rw [UInt8.toNat_ofNat']; omega
    rw [tailN, if_neg hm]
    by_cases hd : m / 128 = 0
    · rw [hd, tailN_zero]
      simp only [cont, List.cons_append, List.nil_append]
      have hm' : m % 128 = m := by omega
      rw [rdGo_last st rest (by omega) (by rw [hb]; omega) (by rintro rfl; rw [hb]; simp at h3; omega) (by rw [hb]; omega), hb, hm']
      simp
    · have hk9 : k ≠ 9 := by rintro rfl; simp at h3; omega
      obtain ⟨x, r, hx⟩ : ∃ x r, tailN f (m / 128) = x :: r := by
        obtain ⟨f', rfl⟩ : ∃ f', f = f' + 1 := ⟨f - 1, by omega⟩
        rw [tailN, if_neg hd]; exact ⟨_, _, rfl⟩
      have hcn : cont (UInt8.ofNat (m % 128) :: tailN f (m / 128)) = (UInt8.ofNat (m % 128) + 128) :: cont (tailN f (m / 128)) := by rw [hx]; rfl
      rw [hcn, List.cons_append]
      have hbb : (UInt8.ofNat (m % 128) + 128).toNat = m % 128 + 128 := by
        rw [UInt8.toNat_add, hb]; show (m % 128 + 128) % 256 = _; omega
      rw [rdGo_more st _ (by omega) hk9 (by rw [hbb]; omega), hbb]
      have hp : (2 : Nat) ^ (64 - 7 * k) = 2 ^ (64 - 7 * (k + 1)) * 128 := by
        rw [show 64 - 7 * k = (64 - 7 * (k + 1)) + 7 by omega, Nat.pow_add]
      rw [ih (k + 1) _ (m / 128) rest hd (by omega) (by omega) (by rw [hp] at h3; omega)]
      have hq : (2 : Nat) ^ (7 * (k + 1) - 1) = 128 * 2 ^ (7 * k - 1) := by
        rw [show 7 * (k + 1) - 1 = 7 + (7 * k - 1) by omega, Nat.pow_add]
      simp only [List.length_cons]
      congr 2
      · rw [hq, show (m % 128 + 128) % 128 = m % 128 by omega]
        generalize 2 ^ (7 * k - 1) = Q
        have : m * Q = (m % 128) * Q + (m / 128) * (128 * Q) := by
          conv => lhs; rw [show m = m % 128 + 128 * (m / 128) by omega]
          rw [Nat.add_mul, Nat.mul_comm 128 (m / 128), Nat.mul_assoc]
        omega
      · congr 1; omega
theorem rd_num (x : Int) (h0 : -9223372036854775808 ≤ x) (h1 : x ≤ 9223372036854775807) (pre post : List UInt8) : rd (pre ++ num x ++ post) pre.length = .ok (x, (num x).length) := by
  have hm := mag_lt x h0 h1
  have hpos := num_pos x
  unfold rd
  rw [if_pos (by simp; omega)]
  have hd : List.drop (pre.length : Int).toNat (pre ++ num x ++ post) = num x ++ post := by
    rw [show (pre.length : Int).toNat = pre.length by omega, List.append_assoc, List.drop_left]
  have hnl : (num x).length = 1 + (tailN 9 (mag x / 64)).length := by rw [num, pack_length]; simp [groups]; omega
  rw [hd, hnl, num, pack_cont, groups]
  have hs : sgn x ≤ 1 := by unfold sgn; split <;> omega
  have hb : (UInt8.ofNat (mag x % 64 * 2 + sgn x)).toNat = mag x % 64 * 2 + sgn x := by rw [UInt8.toNat_ofNat']; omega
  have key : rdGo 0 (0, 0) (cont (UInt8.ofNat (mag x % 64 * 2 + sgn x) :: tailN 9 (mag x / 64)) ++ post) = .ok (mag x, sgn x, 1 + (tailN 9 (mag x / 64)).length) := by
    by_cases hz : mag x / 64 = 0
    · rw [hz, tailN_zero]
      simp only [cont, List.cons_append, List.nil_append]
      rw [rdGo_last0 _ _ (by rw [hb]; omega), hb]
      congr 2
      · omega
      · congr 1; omega
    · obtain ⟨y, r, hx⟩ : ∃ y r, tailN 9 (mag x / 64) = y :: r := by
        rw [show (9 : Nat) = 8 + 1 from rfl, tailN, if_neg hz]; exact ⟨_, _, rfl⟩
      have hcn : cont (UInt8.ofNat (mag x % 64 * 2 + sgn x) :: tailN 9 (mag x / 64)) = (UInt8.ofNat (mag x % 64 * 2 + sgn x) + 128) :: cont (tailN 9 (mag x / 64)) := by rw [hx]; rfl
      have hbb : (UInt8.ofNat (mag x % 64 * 2 + sgn x) + 128).toNat = mag x % 64 * 2 + sgn x + 128 := by
        rw [UInt8.toNat_add, hb]; show (_ + 128) % 256 = _; omega
      rw [hcn, List.cons_append, rdGo_more0 _ _ (by rw [hbb]; omega), hbb]
      rw [rdGo_tail 9 1 _ _ post hz (by omega) (by omega) (by show mag x / 64 < 144115188075855872; omega)]
      congr 2
      · show (mag x % 64 * 2 + sgn x + 128) % 128 / 2 + mag x / 64 * 64 = mag x; omega
      · congr 1; show (mag x % 64 * 2 + sgn x + 128) % 128 % 2 = sgn x; omega
  rw [key]
  dsimp only
  congr 2
  · unfold sgn mag; split <;> simp <;> omega
theorem enc_num (x : Int) (h0 : -9223372036854775808 ≤ x) (h1 : x ≤ 9223372036854775807) : Enc readNum (num x) x := by
  intro pre post
  rw [readNum, rd_num x h0 h1]
  simp
theorem enc_text (t : List UInt8) (ht : t.length ≤ 10000) : Enc readText (text t) t := by
  intro pre post
  have h := rd_num t.length (by omega) (by omega) pre (t ++ post)
  rw [show pre ++ text t ++ post = pre ++ num t.length ++ (t ++ post) by simp [text], readText, rdW, h]
  dsimp only
  rw [if_neg (by omega), if_neg (by simp; omega)]
  dsimp only
  rw [show ((pre.length : Int) + ((num t.length).length : Nat)).toNat = (pre ++ num t.length).length by simp; omega, List.drop_left, show ((t.length : Int)).toNat = t.length by omega, List.take_left]
  simp [text]; omega
theorem rdGo_take : ∀ (l : List UInt8) (k : Nat) (st : Nat × Nat) (m sg z j : Nat), rdGo k st l = .ok (m, sg, z) → k < z ∧ (z ≤ k + j → rdGo k st (l.take j) = .ok (m, sg, z)) ∧ (k + j < z → rdGo k st (l.take j) = .error false) := by
  intro l
  induction l with
  | nil => intro k st m sg z j h; cases h
  | cons b r ih =>
    intro k st m sg z j h
    rw [rdGo] at h
    split at h
    · cases h
    · rename_i hc
      dsimp only at h
      split at h
      · rename_i hb
        injection h with h
        simp only [Prod.mk.injEq] at h
        obtain ⟨h1, h2, h3⟩ := h
        refine ⟨by omega, fun hz => ?_, fun hz => ?_⟩
        · obtain ⟨j', rfl⟩ : ∃ j', j = j' + 1 := ⟨j - 1, by omega⟩
          rw [List.take_succ_cons, rdGo, if_neg hc]
          dsimp only
          rw [if_pos hb, h1, h2, h3]
        · obtain rfl : j = 0 := by omega
          rfl
      · rename_i hb
        cases j with
        | zero =>
          obtain ⟨h1, _, _⟩ := ih _ _ _ _ _ 0 h
          exact ⟨by omega, fun hz => by omega, fun _ => rfl⟩
        | succ j' =>
          obtain ⟨h1, h2, h3⟩ := ih _ _ _ _ _ j' h
          refine ⟨by omega, fun hz => ?_, fun hz => ?_⟩
          all_goals
            rw [List.take_succ_cons, rdGo, if_neg hc]
            dsimp only
            rw [if_neg hb]
          · exact h2 (by omega)
          · exact h3 (by omega)
theorem rd_take {s : List UInt8} {a n : Int} {z : Nat} (h : rd s a = .ok (n, z)) (k : Nat) (hk : a ≤ k) : 0 ≤ a ∧ (a + z ≤ k → rd (s.take k) a = .ok (n, z)) ∧ (k < a + z → rd (s.take k) a = .error false) := by
  have hbd := rd_bound h
  unfold rd at h
  split at h
  · rename_i hin
    cases hr : rdGo 0 (0, 0) (s.drop a.toNat) with
    | error e => rw [hr] at h; cases h
    | ok p =>
      obtain ⟨m, sg, z'⟩ := p
      rw [hr] at h
      dsimp only at h
      injection h with h
      simp only [Prod.mk.injEq] at h
      obtain ⟨h1, rfl⟩ := h
      obtain ⟨g1, g2, g3⟩ := rdGo_take _ _ _ _ _ _ (k - a.toNat) hr
      have hd : (s.take k).drop a.toNat = (s.drop a.toNat).take (k - a.toNat) := List.drop_take
      refine ⟨hin.1, fun hz => ?_, fun hz => ?_⟩
      · unfold rd
        rw [if_pos (by simp; omega), hd, g2 (by omega)]
        dsimp only
        rw [h1]
      · unfold rd
        split
        · rw [hd, g3 (by omega)]
        · rfl
  · cases h
theorem cuts_num : Cuts readNum := by
  intro s a v b k h hk
  unfold readNum at h ⊢
  cases hr : rd s a with
  | error e => rw [hr] at h; cases h
  | ok p =>
    obtain ⟨n, z⟩ := p
    rw [hr] at h
    simp only [Option.some.injEq, Prod.mk.injEq] at h
    obtain ⟨rfl, rfl⟩ := h
    obtain ⟨_, g1, g2⟩ := rd_take hr k hk
    exact ⟨by omega, fun h => by rw [g1 h], fun h => by rw [g2 h]⟩
theorem cuts_text : Cuts readText := by
  intro s a v b k h hk
  unfold readText rdW at h ⊢
  cases hr : rd s a with
  | error e => rw [hr] at h; cases h
  | ok p =>
    obtain ⟨n, z⟩ := p
    rw [hr] at h
    dsimp only at h
    obtain ⟨g0, g1, g2⟩ := rd_take hr k hk
    by_cases hn : n < 0 ∨ 10000 < n
    · rw [if_pos hn] at h; cases h
    rw [if_neg hn] at h
    by_cases hl : (s.length : Int) - (a + z) < n
    · rw [if_pos hl] at h; cases h
    rw [if_neg hl] at h
    simp only [Option.some.injEq, Prod.mk.injEq] at h
    obtain ⟨rfl, rfl⟩ := h
    have hbd := rd_bound hr
    refine ⟨by omega, fun hb => ?_, fun hb => ?_⟩
    · rw [g1 (by omega)]
      dsimp only
      rw [if_neg hn, if_neg (by simp; omega)]
      dsimp only
      rw [List.drop_take, List.take_take, show min n.toNat (k - (a + ↑z).toNat) = n.toNat by omega]
    · by_cases hz : a + z ≤ k
      · rw [g1 hz]
        dsimp only
        rw [if_neg hn, if_pos (by simp; omega)]
      · rw [g2 (by omega)]
end Go.Mor
end

section
/- The code of Cd1 is the program's; the examples run. No statement of the program is proved here. -/
namespace Go.Proofs.YthjphllpkcnehaaGreatDoor
open Go Go.RowKit Go.Mor Go.Sh Go.Sh.Cd1
set_option maxRecDepth 100000
set_option maxHeartbeats 8000000

theorem funcs_ok : FuncsOk Tryz.prog funcs := by
  intro f G h
  unfold funcs at h
  split at h
  · cases h; exact ⟨_, _, _, _, tf_morainelaw03_awake⟩
  · cases h; exact ⟨_, _, _, _, tf_val_Read⟩
  · cases h; exact ⟨_, _, _, _, tf_moraineref03_Same⟩
  · cases h; exact ⟨_, _, _, _, tf_val_Encode⟩
  · cases h; exact ⟨_, _, _, _, tf_val_Decode⟩
  · cases h; exact ⟨_, _, _, _, tf_val_Right⟩
  · cases h; exact ⟨_, _, _, _, tf_val_Compare⟩
  · cases h; exact ⟨_, _, _, _, tf_moraineref03_Compare⟩
  · cases h; exact ⟨_, _, _, _, tf_val_Same⟩
  · cases h; exact ⟨_, _, _, _, tf_val_reader⟩
  · cases h; exact ⟨_, _, _, _, tf_val_value⟩
  · cases h; exact ⟨_, _, _, _, tf_val_items⟩
  · cases h; exact ⟨_, _, _, _, tf_val_lay⟩
  · cases h; exact ⟨_, _, _, _, tf___val_decoder__value⟩
  · cases h; exact ⟨_, _, _, _, tf_val_bare⟩
  · cases h; exact ⟨_, _, _, _, tf_val_rightText⟩
  · cases h; exact ⟨_, _, _, _, tf_val_rightID⟩
  · cases h; exact ⟨_, _, _, _, tf_slices_ContainsFunc___api_Val_api_Val_⟩
  · cases h; exact ⟨_, _, _, _, tf_val_noItem⟩
  · cases h; exact ⟨_, _, _, _, tf_cmp_Compare_int_⟩
  · cases h; exact ⟨_, _, _, _, tf_cmp_Compare_string_⟩
  · cases h; exact ⟨_, _, _, _, tf_val_byItems_api_Val_⟩
  · cases h; exact ⟨_, _, _, _, tf_moraineref03_Order⟩
  · cases h; exact ⟨_, _, _, _, tf_val_reader_1⟩
  · cases h; exact ⟨_, _, _, _, tf_val_first⟩
  · cases h; exact ⟨_, _, _, _, tf_val_quoted⟩
  · cases h; exact ⟨_, _, _, _, tf_val_reference⟩
  · cases h; exact ⟨_, _, _, _, tf_val_number⟩
  · cases h; exact ⟨_, _, _, _, tf_val_sign⟩
  · cases h; exact ⟨_, _, _, _, tf___val_decoder__number⟩
  · cases h; exact ⟨_, _, _, _, tf___val_decoder__text⟩
  · cases h; exact ⟨_, _, _, _, tf___val_decoder__items⟩
  · cases h; exact ⟨_, _, _, _, tf_val_plain⟩
  · cases h; exact ⟨_, _, _, _, tf_slices_IndexFunc___api_Val_api_Val_⟩
  · cases h; exact ⟨_, _, _, _, tf_cmp_isNaN_int_⟩
  · cases h; exact ⟨_, _, _, _, tf_cmp_isNaN_string_⟩
  · cases h; exact ⟨_, _, _, _, tf_val_sign_1⟩
  · cases h
theorem hmix0 : Tryz.prog.follows .mixedOrders = true := by kernel_rfl
theorem awake_run : callF Tryz.prog funcs prim1 100 14 15 [] [] = some (.pv (.v (.bool true)), []) := by kernel_rfl
theorem awake_ok (a0 a1 : Addr) (n : Nat) : SCalls Tryz.prog (gl a0 a1 n) 15 [] [] (.pv (.v (.bool true))) [] :=
  callF_sound hmix0 funcs_ok (prim1_sound a0 a1 n) 14 _ _ _ _ _ awake_run
end Go.Proofs.YthjphllpkcnehaaGreatDoor
end

section
/- The law ValKinds, walked. No statement of the program is proved here. -/
namespace Go.Proofs.YthjphllpkcnehaaGreatDoor
open Go Go.RowKit Go.Mor Go.Sh Go.Sh.Cd1
set_option maxRecDepth 100000
set_option maxHeartbeats 4000000
theorem valOne_right' (k n : Int) (s : List UInt8) (hn : I64 n) : right1 (valOne k n s) = true ∧ (valOne k n s).k ≠ 5 := by
  have h := valOne_right k n s hn
  exact ⟨h, (right1_ok h).2.1⟩
theorem valOf_right (x : RawV) (hx : x.ok) : rightV (valOf x) = true := by
  obtain ⟨hk, hn, hs, hl, hlen⟩ := hx
  unfold valOf
  by_cases h : pickI x.k 7 < 5
  · rw [if_pos h]
    obtain ⟨h1, h2⟩ := valOne_right' (pickI x.k 7) x.n x.s hn
    by_cases h3 : 3 ≤ (valOne (pickI x.k 7) x.n x.s).k ∧ pickI (x.k.tdiv 7) 4 = 0
    · rw [if_pos h3]
      rcases right1_inv h1 with e | ⟨n, _, _, e⟩ | ⟨s, _, e⟩ | ⟨k, n, hkk, hi, e⟩
      · rw [e] at h3; simp [V.k] at h3
      · rw [e] at h3; simp [V.k] at h3
      · rw [e] at h3; simp [V.k] at h3
      · rw [e]
        have hp := pickI_lt (n := 20) (by decide) hn
        have hi : rightID (-1 - pickI x.n 20) = true := by unfold rightID; simp; omega
        have hk5 : ¬ k = 5 := by omega
        have hk0 : ¬ k = 0 := by omega
        have hk1 : ¬ k = 1 := by omega
        have hk2 : ¬ k = 2 := by omega
        simp [rightV, right1, bare, V.k, V.n, V.s, V.l, hk5, hk0, hk1, hk2, hkk, hi]
    · rw [if_neg h3]
      unfold rightV; rw [if_neg h2]; exact h1
  · rw [if_neg h]
    have hall : ∀ y ∈ oneL x.l, noItem y = false := by
      intro y hy
      simp only [oneL, List.mem_map] at hy
      obtain ⟨r, hr, rfl⟩ := hy
      obtain ⟨h1, h2⟩ := valOne_right' (pickI r.k 5) r.n r.s (hl r (List.mem_of_mem_take hr)).2.1
      simp [noItem, h1, h2]
    have hlen : (oneL x.l).length ≤ 12 := by simp [oneL]; omega
    have hany : (oneL x.l).any noItem = false := by rw [List.any_eq_false]; intro y hy; rw [hall y hy]; decide
    simp [rightV, V.k, V.n, V.s, V.l, hlen, hany]
theorem encV_len {x : V} (h : rightV x = true) : (encV x).length ≤ 980 ∧ 0 < (encV x).length := by
  by_cases h5 : x.k = 5
  · obtain ⟨h1, h2, h3, h4⟩ := rightL_inv h h5
    have := encTo_len (l := x.l) (fun y hy => (right1_ok (h4 y hy).2).1.2.2) x.l.length
    rw [encTo_all x h5] at this
    refine ⟨by omega, ?_⟩
    have := num_pos 5
    unfold encV; rw [if_pos h5]; simp; omega
  · have := enc1_len (right1_ok (rightV_one h h5)).1.2.2
    unfold encV; rw [if_neg h5]
    refine ⟨by omega, ?_⟩
    have := num_pos x.k
    unfold enc1; simp; omega
theorem rightV_I64 {x : V} (h : rightV x = true) : I64 x.k ∧ I64 x.n := by
  by_cases h5 : x.k = 5
  · obtain ⟨h1, _⟩ := rightL_inv h h5
    rw [h5, h1]; unfold I64; decide
  · have := (right1_ok (rightV_one h h5)).1
    exact ⟨this.1, this.2.1⟩
theorem encV_head (x : V) : ∃ r, encV x = num x.k ++ r := by
  by_cases h5 : x.k = 5
  · exact ⟨num x.l.length ++ x.l.flatMap enc1, by unfold encV; rw [if_pos h5, h5, List.append_assoc]⟩
  · exact ⟨_, by unfold encV; rw [if_neg h5]; rfl⟩
theorem read_kind {x : V} (h : rightV x = true) : readNum (encV x) 0 = some (x.k, ((num x.k).length : Int)) := by
  obtain ⟨r, hr⟩ := encV_head x
  have hk := (rightV_I64 h).1
  have := enc_num x.k hk.1 hk.2 [] r
  simp at this
  rw [hr]; exact this
theorem read_n {x : V} (h : rightV x = true) (hk : x.k = 1 ∨ x.k = 3 ∨ x.k = 4) : readNum (encV x) ((num x.k).length : Int) = some (x.n, ((encV x).length : Int)) := by
  have he : encV x = num x.k ++ num x.n := by unfold encV; rw [if_neg (by omega)]; unfold enc1; rw [if_pos hk]
  have hn := (rightV_I64 h).2
  have := enc_num x.n hn.1 hn.2 (num x.k) []
  simp at this
  rw [he, this]; simp
end Go.Proofs.YthjphllpkcnehaaGreatDoor
end

section
/- The library's calls for texts, as Sh has them: strconv.Itoa, strings.ReplaceAll, strings.Join. No statement of the program is proved here. -/

namespace Go.Proofs.YthjphllpkcnehaaGreatDoor
open Go Go.RowKit Go.Mor Go.Sh
set_option maxHeartbeats 2000000
/-- A call that answers what lies nowhere, and leaves what was there: it may read what it is handed. -/
theorem scalls_keep {P : Program} {g : Sh.Glob} {f : Nat} {xs : List TV} {os : List MO} {y : TV} (hb : hasBody P f)
    (h : ∀ (w : World) (E : Env) (vs : List Value), g.G w → MSim (Sh.start w E os 0) (objB os) (objR os) w E → xs.length = vs.length → (∀ (j : Nat) x v, xs[j]? = some x → vs[j]? = some v → RelT w E (objR os) x v) →
      ∃ v, (∀ w' E r, RelT w' E r y v) ∧ Calls P f vs.toArray w fun e w' => e = .returned v ∧ Below w.heap.size w w') : SCalls P g f xs os y os := by
  refine ⟨hb, fun w E us hG hm hX hl hr => ?_⟩
  obtain ⟨v, hy, hc⟩ := h w E us hG hm hl hr
  refine hc.mono ?_
  rintro e w' ⟨rfl, hb⟩
  refine ⟨v, E, rfl, ?_, hy _ _ _, ⟨fun _ _ _ => rfl, fun _ _ _ _ => rfl, fun d e W n hd => ⟨n, hd, Nat.le_refl _, fun _ => rfl⟩⟩⟩
  exact MSim.ext (s := ⟨fun _ => none, objB os, objR os, fun _ => none⟩) hm hb E (fun _ _ h => h) (fun _ _ h => .inl h) (fun _ _ => ⟨rfl, rfl⟩) (fun _ _ _ => rfl) (fun _ _ => ⟨rfl, rfl⟩)
theorem below_grow {w : World} {k : Nat} {os : Array Obj} : Below w.heap.size w (Go.Sort.grow (w.drewN k) os) := by
  have h1 : ∀ k, Below w.heap.size w (w.drewN k) := by
    intro k
    induction k with
    | zero => exact Below.refl _ _
    | succ k ih => exact ih.trans (by have := (Below.refl w.heap.size (w.drewN k)).drew; exact this)
  have h := h1 k
  refine ⟨h.os, h.tape, h.output, ?_, fun j hj => ?_⟩
  · show _ ≤ ((w.drewN k).heap ++ os).size
    rw [Array.size_append]; have := h.size; omega
  · show ((w.drewN k).heap ++ os)[j]? = _
    rw [Array.getElem?_append_left (by have := h.size; omega)]; exact h.block j hj
theorem itoa_ok (m : Nat) (n : Int) (h0 : -9223372036854775808 ≤ n) (h1 : n ≤ 9223372036854775807) : SCalls Tryz.prog (glT m) 93 [I n] [] (S (str (Lib.itoa n))) [] :=
  scalls_of (vs := [.int .i64 n]) (body_of (by kernel_rfl)) (fun w E r => .pv (.v _)) (fun w hG => (Tryz.strconv_Itoa n h0 h1 w hG.t.tab).mono fun e w' ⟨he, k, os, hw⟩ => ⟨he, by rw [hw]; exact below_grow⟩)
theorem repl_ok (m : Nat) (s o n : List UInt8) (hs : s.length < 4294967281) (ho : 1 ≤ o.length) (hl : s.length + Lib.countB (str s) (str o) * n.length ≤ 140737488355328) :
    SCalls Tryz.prog (glT m) 94 [S (str s), S (str o), S (str n)] [] (S (str (Lib.replaceAll s o n))) [] :=
  scalls_of (vs := [.string (str s), .string (str o), .string (str n)]) (body_of (by kernel_rfl)) (fun w E r => .pv (.v _)) (fun w hG => by
    obtain ⟨k, hk⟩ := hG.t.mx
    have := Tryz.strings_ReplaceAll (str s) (str o) (str n) k w (by rw [str_size]; exact hs) hk (by rw [str_size]; exact ho) (by rw [str_size, str_size]; exact hl)
    simp only [str_toList] at this
    exact this)
/-- Texts as a variable's cells. -/
def strC (l : List (List UInt8)) : List TV := pvC (l.map fun s => .v (.string (str s)))
theorem join_ok (m : Nat) (l : List (List UInt8)) (sep : List UInt8) (hN : l.length ≤ 140737488355328) (hl : (Lib.join l sep).length ≤ 140737488355328) :
    SCalls Tryz.prog (glT m) 96 [.bs 1000 0 l.length l.length, S (str sep)] [.box (strC l)] (S (str (Lib.join l sep))) [.box (strC l)] := by
  refine scalls_keep (body_of (by kernel_rfl)) fun w E vs hG hm hlen hr => ⟨.string (str (Lib.join l sep)), fun w' E r => .pv (.v _), ?_⟩
  obtain ⟨v0, v1, rfl⟩ : ∃ v0 v1, vs = [v0, v1] := by
    match vs, hlen with
    | [v0, v1], _ => exact ⟨v0, v1, rfl⟩
  obtain rfl := rel_S (hr 1 _ v1 rfl rfl)
  have r0 := hr 0 _ v0 rfl rfl
  cases r0 with
  | bs =>
  obtain ⟨hbox, _⟩ := hm.box 1000 (strC l) rfl
  have := Tryz.strings_Join (E.β 1000) 0 l.length (l.map str) (str sep) w (fun j x hx => by
    rw [List.getElem?_map] at hx
    obtain ⟨y, hy, rfl⟩ := Option.map_eq_some_iff.1 hx
    obtain ⟨v, h1, _, h3⟩ := hbox.cell j (S (str y)) (by simp [strC, pvC, hy]; rfl)
    rw [Nat.zero_add, h1, rel_S h3]) hbox.lt (by simpa using hN) (by simp) (by simpa [Function.comp_def, str_toList] using hl)
  simp only [List.length_map, List.map_map, Function.comp_def, str_toList, List.map_id'] at this
  exact this
end Go.Proofs.YthjphllpkcnehaaGreatDoor
end

section
/- How values are written: the program's Text. No statement of the program is proved here. -/
namespace Go.Proofs.YthjphllpkcnehaaGreatDoor
open Go Go.RowKit Go.Mor Go.Sh Go.Sh.Cd1 Go.Sh.Cd2
set_option maxRecDepth 100000
set_option maxHeartbeats 4000000
theorem q34 : (⟨#[34]⟩ : ByteArray) = str [34] := rfl
theorem q64 : (⟨#[64]⟩ : ByteArray) = str [64] := rfl
theorem q126 : (⟨#[126]⟩ : ByteArray) = str [126] := rfl
theorem q91 : (⟨#[91]⟩ : ByteArray) = str [91] := rfl
theorem q93 : (⟨#[93]⟩ : ByteArray) = str [93] := rfl
theorem written1_ok (m : Nat) (x : V) (h : right1 x = true) : SCalls Tryz.prog (glT m) 54 [tv x] [] (S (str (text1 x))) [] := by
  refine call_of0 hmix tf_val_written rfl ?_
  have hI : ∀ n : Int, -1000000000000000 ≤ n → n ≤ 1000000000000000 → SCalls Tryz.prog (glT m) 93 [I n] [] (S (str (Lib.itoa n))) [] := fun n h1 h2 => itoa_ok m n (by omega) (by omega)
  rcases right1_inv h with rfl | ⟨n, h1, h2, rfl⟩ | ⟨s, h1, rfl⟩ | ⟨k, n, hk, h1, rfl⟩
  · simp only [vcA, seval, vV]
    rfl
  · have HI := hI n h1 h2
    simp only [vcA, seval, vV]
    (with_reducible apply v_call); (· simp only [vcA, seval, vV]; with_reducible rfl); (· exact HI); (· first | rfl | (simp only [vcA, seval]; omega)); (· simp only [vcA, seval, vV]; with_reducible rfl)
    simp only [vcA, seval, vV]
    rfl
  · have hl := rightText_len h1
    have l1 := repl_len s
    have HR1 := repl_ok m s [92] [92, 92] (by omega) (by decide) (by have := countB_one 92 s; simp only [List.length_cons, List.length_nil]; omega)
    have HR2 := repl_ok m (Lib.replaceAll s [92] [92, 92]) [34] [92, 34] (by omega) (by decide) (by have := countB_one 34 (Lib.replaceAll s [92] [92, 92]); simp only [List.length_cons, List.length_nil]; omega)
    rw [qs_repl] at HR2
    simp only [vcA, seval, vV]
    (with_reducible apply v_call); (· simp only [vcA, seval, vV]; with_reducible rfl); (· exact HR1); (· first | rfl | (simp only [vcA, seval]; omega)); (· simp only [vcA, seval, vV]; with_reducible rfl)
    simp only [vcA, seval, vV]
    (with_reducible apply v_call); (· simp only [vcA, seval, vV]; with_reducible rfl); (· exact HR2); (· first | rfl | (simp only [vcA, seval]; omega)); (· simp only [vcA, seval, vV]; with_reducible rfl)
    have l2 := qs_len s
    simp only [vcA, seval, vV, q34]
    exact ⟨by omega, by omega, rfl⟩
  · have h5 := rightID_inv h1
    have HI := hI n (by omega) (by omega)
    have l2 := Lib.itoa_length_le n (by omega) (by omega)
    rcases hk with rfl | rfl
    · simp only [vcA, seval, vV]
      (with_reducible apply v_call); (· simp only [vcA, seval, vV]; with_reducible rfl); (· exact HI); (· first | rfl | (simp only [vcA, seval]; omega)); (· simp only [vcA, seval, vV]; with_reducible rfl)
      simp only [vcA, seval, vV, q64]
      exact ⟨by omega, rfl⟩
    · simp only [vcA, seval, vV]
      (with_reducible apply v_call); (· simp only [vcA, seval, vV]; with_reducible rfl); (· exact HI); (· first | rfl | (simp only [vcA, seval]; omega)); (· simp only [vcA, seval, vV]; with_reducible rfl)
      simp only [vcA, seval, vV, q126]
      exact ⟨by omega, rfl⟩
/-- The parts' texts, as far as they are made. -/
def partP (l : List V) (i : Nat) : List PV := (l.take i).map (fun x => PV.v (.string (str (text1 x)))) ++ List.replicate (l.length - i) (.v (.string (str [])))
theorem partP_0 (l : List V) : pvC (partP l 0) = (List.replicate l.length [TV.pv (.v (.string ⟨#[]⟩))]).flatten := by
  have : ∀ n, (List.replicate n [TV.pv (.v (.string ⟨#[]⟩))]).flatten = List.replicate n (S (str [])) := by
    intro n
    induction n with
    | zero => rfl
    | succ n ih => rw [List.replicate_succ, List.flatten_cons, ih]; rfl
  rw [this]; simp [partP, pvC, S]
theorem partP_len (l : List V) (i : Nat) (h : i ≤ l.length) : (partP l i).length = l.length := by simp [partP]; omega
theorem partP_end (l : List V) : pvC (partP l l.length) = strC (l.map text1) := by simp [partP, strC, Function.comp_def]
theorem partP_succ {l : List V} {i : Nat} {x : V} (h : l[i]? = some x) : List.take i (pvC (partP l i)) ++ [TV.pv (.v (.string (str (text1 x))))] ++ List.drop (i + 1) (pvC (partP l i)) = pvC (partP l (i + 1)) := by
  have hi : i < l.length := (List.getElem?_eq_some_iff.1 h).1
  rw [pvC_set (by rw [partP_len l i (by omega)]; exact hi)]
  congr 1
  have hl : ((l.take i).map (fun x => PV.v (.string (str (text1 x))))).length = i := by simp; omega
  unfold partP
  rw [List.set_append_right _ _ (by omega), hl, Nat.sub_self, List.take_add_one, h, show l.length - i = (l.length - (i + 1)) + 1 by omega, List.replicate_succ, List.set_cons_zero]
  simp
theorem written_ok (m : Nat) (x : V) (h : rightV x = true) : SCalls Tryz.prog (glT m) 54 [tv x] [] (S (str (textV x))) [] := by
  unfold textV
  by_cases h5 : x.k = 5
  · rw [if_pos h5]
    obtain ⟨hn, hs, h12, hr⟩ := rightL_inv h h5
    obtain ⟨k, n, s, l⟩ := x
    simp only [Vk, Vn, Vs, Vl] at h5 hn hs h12 hr ⊢
    subst h5; subst hn; subst hs
    have hlen := headT_len l (fun y hy => (hr y hy).2)
    have hj := headT_join l
    have HJ := join_ok m (l.map text1) [32] (by rw [List.length_map]; omega) (by
      have := congrArg List.length hj
      rw [List.length_append] at this
      omega)
    rw [List.length_map, ← partP_end] at HJ
    refine call_of0 hmix tf_val_written rfl ?_
    simp only [vcA, seval, vV]
    refine ⟨⟨by omega, by unfold maxLen; omega⟩, ?_⟩
    rw [← partP_0]
    refine v_loop (σ := {i : Nat // i ≤ l.length}) (fun i => ⟨[(4, .bs 40 0 l.length l.length), (42, .pv (.sl 4 (V.rows l))), (43, I (l.length : Int)), (44, I (i.1 : Int))], [(40, pvC (partP l i.1))], [], []⟩) (fun i => l.length - i.1) ⟨0, by omega⟩ ?_ ?_
    · apply lw_of <;> simp [leL, lk, sv, Nat.beq, I, S, ES.kill, has, drp, nilT, pvC_fgt]
    rintro ⟨i, hi⟩
    by_cases hlt : i < l.length
    · have d1 : (i : Int) < (l.length : Int) := by omega
      obtain ⟨y, ey⟩ : ∃ y, l[i]? = some y := ⟨_, List.getElem?_eq_getElem hlt⟩
      have HW := written1_ok m y (hr y (List.mem_of_getElem? ey)).2
      have w1 : IntKind.i64.wrap ((i : Int) + 1) = ((i + 1 : Nat) : Int) := by rw [wrap64 (by omega) (by omega)]; omega
      have pl := partP_len l i hi
      have ps := partP_succ ey
      simp only [vcA, seval, vV, d1, ey]
      (with_reducible apply v_call); (· simp only [vcA, seval, vV]; with_reducible rfl); (· exact HW); (· first | rfl | (simp only [vcA, seval]; omega)); (· simp only [vcA, seval, vV]; with_reducible rfl)
      simp only [vcA, seval, vV, pl, w1, Nat.mul_one, ps]
      refine ⟨by omega, by omega, loopK_of ⟨i + 1, by omega⟩ (by show l.length - (i + 1) < l.length - i; omega) ?_⟩
      apply lw_of <;> simp [leL, lk, sv, Nat.beq, I, S, ES.kill, has, drp, nilT]
    · have d1 : ¬ (i : Int) < (l.length : Int) := by omega
      obtain rfl : i = l.length := by omega
      simp only [vcA, seval, vV, d1]
      (with_reducible apply v_call); (· simp only [vcA, seval, vV]; with_reducible rfl); (· exact HJ); (· first | rfl | (simp only [vcA, seval]; omega)); (· simp only [vcA, seval, vV]; with_reducible rfl)
      simp only [vcA, seval, vV, q91, q93]
      rw [hj]
      have := congrArg List.length hj
      rw [List.length_append] at this
      exact ⟨by omega, by omega, rfl⟩
  · rw [if_neg h5]
    exact written1_ok m x (rightV_one h h5)
def textTVv (x : V) : TV := if rightV x then .tuple [S (str (textV x)), I 0] else .tuple [S (str []), I 30]
theorem valText_ok' (m : Nat) (x : V) (hx : VOk x) : SCalls Tryz.prog (glT m) 17 [tv x] [] (textTVv x) [] := by
  refine call_of0 hmix tf_val_Text rfl ?_
  have HR := sc_0T (rightV_ok0 m x hx)
  unfold textTVv B at *
  cases hr : rightV x
  · rw [hr] at HR
    simp only [vcA, seval, vV]
    (with_reducible apply v_call); (· simp only [vcA, seval, vV]; with_reducible rfl); (· exact HR); (· first | rfl | (simp only [vcA, seval]; omega)); (· simp only [vcA, seval, vV]; with_reducible rfl)
    simp only [vcA, seval, vV]
    rfl
  · rw [hr] at HR
    have HW := written_ok m x hr
    simp only [vcA, seval, vV]
    (with_reducible apply v_call); (· simp only [vcA, seval, vV]; with_reducible rfl); (· exact HR); (· first | rfl | (simp only [vcA, seval]; omega)); (· simp only [vcA, seval, vV]; with_reducible rfl)
    simp only [vcA, seval, vV]
    (with_reducible apply v_call); (· simp only [vcA, seval, vV]; with_reducible rfl); (· exact HW); (· first | rfl | (simp only [vcA, seval]; omega)); (· simp only [vcA, seval, vV]; with_reducible rfl)
    simp only [vcA, seval, vV]
end Go.Proofs.YthjphllpkcnehaaGreatDoor
end

section
/- The document's texts of values, walked: Text, Digits, Quoted, bytes, Encode, written. No statement of the program is proved here. -/
namespace Go.Proofs.YthjphllpkcnehaaGreatDoor
open Go Go.RowKit Go.Mor Go.Sh Go.Sh.Cd1 Go.Sh.Cd2
set_option maxRecDepth 100000
set_option maxHeartbeats 4000000
theorem refText_ok (g : Sh.Glob) (l : List UInt8) (hl : l.length ≤ 10000) : SCalls Tryz.prog g 116 [S (str l)] [] (.tuple [S (str (text l)), I 0]) [] := by
  refine call_of0 hmix tf_moraineref01_Text rfl ?_
  have HN := refNum_ok g l.length ⟨by omega, by omega⟩
  have d1 : ¬ (10000 : Int) < (l.length : Int) := by omega
  have hn := num_length (l.length : Int)
  simp only [vcA, seval, vV, d1]
  (with_reducible apply v_call); (· simp only [vcA, seval, vV]; with_reducible rfl); (· exact HN); (· first | rfl | (simp only [vcA, seval]; omega)); (· simp only [vcA, seval, vV]; with_reducible rfl)
  simp only [vcA, seval, vV]
  exact ⟨by omega, rfl⟩
theorem digs : (⟨#[48, 49, 50, 51, 52, 53, 54, 55, 56, 57]⟩ : ByteArray) = str [48, 49, 50, 51, 52, 53, 54, 55, 56, 57] := rfl
theorem dig_at : ∀ k, k < 10 → List.take (k + 1 - k) (List.drop k [48, 49, 50, 51, 52, 53, 54, 55, 56, 57]) = [UInt8.ofNat (48 + k)] := by decide
theorem q45 : (⟨#[45]⟩ : ByteArray) = str [45] := rfl
theorem decDigits_step (u : Nat) (h : ¬ u < 10) : Lib.decDigits u = Lib.decDigits (u / 10) ++ [UInt8.ofNat (48 + u % 10)] := by
  conv => lhs; rw [Lib.decDigits]
  rw [dif_neg h]
theorem refDigitsN_ok (g : Sh.Glob) : ∀ (f u : Nat), u ≤ f → u ≤ 1000000000000000 → SCalls Tryz.prog g 117 [I (u : Int)] [] (S (str (Lib.decDigits u))) []
  | f, u, hf, hu => by
    have e1 : (u : Int).tmod 10 = ((u % 10 : Nat) : Int) := (Int.ofNat_tmod _ _).symm
    have w1 : IntKind.i64.wrap (((u % 10 : Nat) : Int) + 1) = ((u % 10 + 1 : Nat) : Int) := by rw [wrap64 (by omega) (by omega)]; omega
    have d0 : ¬ (u : Int) < 0 := by omega
    have dk := dig_at (u % 10) (by omega)
    refine call_of0 hmix tf_moraineref03_Digits rfl ?_
    by_cases h10 : u < 10
    · have d1 : (u : Int) < 10 := by omega
      simp only [vcA, seval, vV, d0, e1, w1, digs, d1, dk]
      refine ⟨⟨by omega, by omega⟩, ?_⟩
      rw [Lib.decDigits_one h10, Nat.mod_eq_of_lt h10]
    · have d1 : ¬ (u : Int) < 10 := by omega
      have w2 : IntKind.i64.wrap ((u : Int).tdiv 10) = ((u / 10 : Nat) : Int) := by
        rw [show (u : Int).tdiv 10 = ((u / 10 : Nat) : Int) from (Int.ofNat_tdiv _ _).symm, wrap64 (by omega) (by omega)]
      obtain ⟨f', rfl⟩ : ∃ f', f = f' + 1 := ⟨f - 1, by omega⟩
      have HD := refDigitsN_ok g f' (u / 10) (by omega) (by omega)
      have hl := Lib.itoa_length_le (u / 10 : Nat) (by omega) (by omega)
      rw [Lib.itoa_nonneg] at hl
      rw [decDigits_step u h10]
      simp only [vcA, seval, vV, d0, e1, w1, digs, d1, dk, w2]
      refine ⟨⟨by omega, by omega⟩, ?_⟩
      (with_reducible apply v_call); (· simp only [vcA, seval, vV]; with_reducible rfl); (· exact HD); (· first | rfl | (simp only [vcA, seval]; omega)); (· simp only [vcA, seval, vV]; with_reducible rfl)
      simp only [vcA, seval, vV]
      omega
theorem refDigits_ok (g : Sh.Glob) (n : Int) (h1 : -1000000000000000 ≤ n) (h2 : n ≤ 1000000000000000) : SCalls Tryz.prog g 117 [I n] [] (S (str (Lib.itoa n))) [] := by
  by_cases hneg : n < 0
  · -- n = -u
    have key : ∀ (f u : Nat), u ≤ f → 1 ≤ u → u ≤ 1000000000000000 → SCalls Tryz.prog g 117 [I (-(u : Int))] [] (S (str (45 :: Lib.decDigits u))) [] := by
      intro f
      induction f with
      | zero => intro u h1 h2; omega
      | succ f ih =>
        intro u hf hu1 hu
        refine call_of0 hmix tf_moraineref03_Digits rfl ?_
        have d0 : (-(u : Int)) < 0 := by omega
        by_cases h10 : u < 10
        · have d1 : ¬ (-(u : Int)) ≤ -10 := by omega
          have HD := refDigitsN_ok g u u (Nat.le_refl _) hu
          have w0 : IntKind.i64.wrap (0 - -(u : Int)) = (u : Int) := by rw [wrap64 (by omega) (by omega)]; omega
          have hl := Lib.itoa_length_le (u : Nat) (by omega) (by omega)
          rw [Lib.itoa_nonneg] at hl
          simp only [vcA, seval, vV, d0, d1, w0]
          (with_reducible apply v_call); (· simp only [vcA, seval, vV]; with_reducible rfl); (· exact HD); (· first | rfl | (simp only [vcA, seval]; omega)); (· simp only [vcA, seval, vV]; with_reducible rfl)
          simp only [vcA, seval, vV, q45]
          omega
        · have d1 : (-(u : Int)) ≤ -10 := by omega
          have e1 : (-(u : Int)).tmod 10 = -((u % 10 : Nat) : Int) := by rw [Int.neg_tmod]; congr 1
          have e2 : (-(u : Int)).tdiv 10 = -((u / 10 : Nat) : Int) := by rw [Int.neg_tdiv]; congr 1
          have w1 : IntKind.i64.wrap (-((u / 10 : Nat) : Int)) = -((u / 10 : Nat) : Int) := wrap64 (by omega) (by omega)
          have w2 : IntKind.i64.wrap (0 - -((u % 10 : Nat) : Int)) = ((u % 10 : Nat) : Int) := by rw [wrap64 (by omega) (by omega)]; omega
          have HD := ih (u / 10) (by omega) (by omega) (by omega)
          have HE := refDigitsN_ok g (u % 10) (u % 10) (Nat.le_refl _) (by omega)
          rw [Lib.decDigits_one (show u % 10 < 10 by omega)] at HE
          have hl := Lib.itoa_length_le (u / 10 : Nat) (by omega) (by omega)
          rw [Lib.itoa_nonneg] at hl
          rw [decDigits_step u h10]
          simp only [vcA, seval, vV, d0, d1, e1, e2, w1]
          (with_reducible apply v_call); (· simp only [vcA, seval, vV]; with_reducible rfl); (· exact HD); (· first | rfl | (simp only [vcA, seval]; omega)); (· simp only [vcA, seval, vV]; with_reducible rfl)
          simp only [vcA, seval, vV, e1, w2]
          (with_reducible apply v_call); (· simp only [vcA, seval, vV]; with_reducible rfl); (· exact HE); (· first | rfl | (simp only [vcA, seval]; omega)); (· simp only [vcA, seval, vV]; with_reducible rfl)
          simp only [vcA, seval, vV]
          omega
    obtain ⟨u, rfl⟩ : ∃ u : Nat, n = -(u : Int) := ⟨n.natAbs, by omega⟩
    rw [Lib.itoa_neg u (by omega)]
    exact key u u (Nat.le_refl _) (by omega) (by omega)
  · obtain ⟨u, rfl⟩ : ∃ u : Nat, n = (u : Int) := ⟨n.toNat, by omega⟩
    rw [Lib.itoa_nonneg]
    exact refDigitsN_ok g u u (Nat.le_refl _) (by omega)
theorem q92 : (⟨#[92]⟩ : ByteArray) = str [92] := rfl
theorem refQuoted_ok (g : Sh.Glob) (l : List UInt8) (hl : l.length ≤ 10000) : SCalls Tryz.prog g 118 [S (str l)] [] (S (str (34 :: (qs l ++ [34])))) [] := by
  refine call_of0 hmix tf_moraineref03_Quoted rfl ?_
  simp only [vcA, seval, vV]
  refine v_loop (σ := {i : Nat // i ≤ l.length}) (fun i => ⟨[(0, S (str l)), (3, S (str (34 :: qs (l.take i.1)))), (4, I (i.1 : Int))], [], [], []⟩) (fun i => l.length - i.1) ⟨0, Nat.zero_le _⟩ ?_ ?_
  · rw [List.take_zero, show (34 :: qs []) = [34] from rfl, ← q34]; apply lw_of <;> simp [leL, lk, sv, Nat.beq, I, S, ES.kill, has, drp, nilT]
  rintro ⟨i, hi⟩
  have hq := qs_len (l.take i)
  rw [List.length_take] at hq
  by_cases hlt : i < l.length
  · have d1 : (i : Int) < (l.length : Int) := by omega
    obtain ⟨c, ec⟩ : ∃ c, l[i]? = some c := ⟨_, List.getElem?_eq_getElem hlt⟩
    have w1 : IntKind.i64.wrap ((i : Int) + 1) = ((i + 1 : Nat) : Int) := by rw [wrap64 (by omega) (by omega)]; omega
    have tk : List.take (i + 1 - i) (List.drop i l) = [c] := by
      rw [show i + 1 - i = 1 by omega, List.drop_eq_getElem_cons hlt]
      rw [List.getElem?_eq_getElem hlt] at ec
      simp [Option.some.inj ec]
    have tk1 := List.take_add_one (l := l) (i := i)
    rw [ec] at tk1
    have g1 : i ≤ i + 1 := by omega
    have g2 : i + 1 ≤ l.length := by omega
    by_cases hc : c.toNat = 34 ∨ c.toNat = 92
    · have hqs : qs (l.take (i + 1)) = qs (l.take i) ++ [92, c] := by
        rw [tk1, qs_app]; congr 1; show List.flatMap _ [c] = _; simp [hc]
      have fin : ∀ s : ES, (⟨[(0, S (str l)), (3, S (str (34 :: (qs (l.take i) ++ [92] ++ [c])))), (4, I ((i + 1 : Nat) : Int))], [], [], []⟩ : ES).Lw s → (⟨[(0, S (str l)), (3, S (str (34 :: qs (l.take (i + 1))))), (4, I ((i + 1 : Nat) : Int))], [], [], []⟩ : ES).Lw s := by
        intro s h; rw [hqs, show qs (l.take i) ++ [92, c] = qs (l.take i) ++ [92] ++ [c] by simp]; exact h
      rcases hc with c34 | c92
      · have d2 : (c.toNat : Int) = 34 := by omega
        simp only [vcA, seval, vV, d1, ec, d2, q92, w1, tk, g1, g2]
        refine ⟨by omega, by omega, loopK_of ⟨i + 1, g2⟩ (by show l.length - (i + 1) < l.length - i; omega) (fin _ ?_)⟩
        apply lw_of <;> simp [leL, lk, sv, Nat.beq, I, S, ES.kill, has, drp, nilT]
      · have d2 : ¬ (c.toNat : Int) = 34 := by omega
        have d3 : (c.toNat : Int) = 92 := by omega
        simp only [vcA, seval, vV, d1, ec, d2, d3, q92, w1, tk, g1, g2]
        refine ⟨by omega, by omega, loopK_of ⟨i + 1, g2⟩ (by show l.length - (i + 1) < l.length - i; omega) (fin _ ?_)⟩
        apply lw_of <;> simp [leL, lk, sv, Nat.beq, I, S, ES.kill, has, drp, nilT]
    · have d2 : ¬ (c.toNat : Int) = 34 := by omega
      have d3 : ¬ (c.toNat : Int) = 92 := by omega
      have hqs : qs (l.take (i + 1)) = qs (l.take i) ++ [c] := by
        rw [tk1, qs_app]; congr 1; show List.flatMap _ [c] = _; simp [hc]
      simp only [vcA, seval, vV, d1, ec, d2, d3, w1, tk, g1, g2]
      refine ⟨by omega, loopK_of ⟨i + 1, g2⟩ (by show l.length - (i + 1) < l.length - i; omega) ?_⟩
      simp only [hqs]
      apply lw_of <;> simp [leL, lk, sv, Nat.beq, I, S, ES.kill, has, drp, nilT]
  · have d1 : ¬ (i : Int) < (l.length : Int) := by omega
    obtain rfl : i = l.length := by omega
    rw [List.take_length]
    simp only [vcA, seval, vV, d1, q34]
    have := qs_len l
    omega
end Go.Proofs.YthjphllpkcnehaaGreatDoor
end

section
/- References, bytes and texts of values: the program's and the document's. No statement of the program is proved here. -/
namespace Go.Proofs.YthjphllpkcnehaaGreatDoor
open Go Go.RowKit Go.Mor Go.Sh Go.Sh.Cd1 Go.Sh.Cd2
set_option maxRecDepth 100000
set_option maxHeartbeats 4000000
def intR (l : List Int) : List (List PV) := l.map fun n => [.v (.int .i64 n)]
theorem intR_len (l : List Int) : (intR l).length = l.length := by simp [intR]
theorem intR_get (l : List Int) (i : Nat) : (intR l)[i]? = (l[i]?).map fun n => [.v (.int .i64 n)] := by simp [intR]
theorem intR_app (l : List Int) (n : Int) : intR l ++ [[.v (.int .i64 n)]] = intR (l ++ [n]) := by simp [intR]
/-- The numbers of all references of a kind. -/
def numsL (l : List V) (k : Int) : List Int := (l.filter fun y => decide (y.k = k)).map V.n
def numsV (x : V) (k : Int) : List Int := if rightV x then (if x.k = k then [x.n] else numsL x.l k) else []
theorem numsL_succ {l : List V} {i : Nat} {y : V} (k : Int) (h : l[i]? = some y) : numsL (l.take (i + 1)) k = numsL (l.take i) k ++ (if y.k = k then [y.n] else []) := by
  unfold numsL
  rw [List.take_add_one, h, List.filter_append, List.map_append]
  congr 1
  by_cases hk : y.k = k <;> simp [hk]
theorem numsL_len (l : List V) (k : Int) : (numsL l k).length ≤ l.length := by unfold numsL; rw [List.length_map]; exact List.length_filter_le _ _
theorem pvI (n : Int) : [[PV.v (.int .i64 n)]] = intR [n] := rfl
theorem numbers_ok (m : Nat) (x : V) (k : Int) (hx : VOk x) : SCalls Tryz.prog (gl0 m) 60 [tv x, I k] [] (.pv (.sl 1 (intR (numsV x k)))) [] := by
  have HR := rightV_ok0 m x hx
  have hm : maxLen = 9223372036854775807 := rfl
  unfold numsV B at *
  cases hr : rightV x
  · rw [hr] at HR
    refine SCalls.out (y := .pv (.v (.slice none 0 0))) ?_ (wk_nil 1)
    refine call_of0 hmix tf_val_numbers rfl ?_
    simp only [vcA, seval, vV]
    (with_reducible apply v_call); (· simp only [vcA, seval, vV]; with_reducible rfl); (· exact HR); (· first | rfl | (simp only [vcA, seval]; omega)); (· simp only [vcA, seval, vV]; with_reducible rfl)
    simp only [vcA, seval, vV]
  rw [hr] at HR
  have h12 : x.l.length ≤ 12 := by
    by_cases h5 : x.k = 5
    · exact (rightL_inv hr h5).2.2.1
    · obtain ⟨_, _, e⟩ := right1_ok (rightV_one hr h5); rw [e]; simp
  rw [if_pos rfl]
  by_cases hk : x.k = k
  · rw [if_pos hk]
    refine call_of0 hmix tf_val_numbers rfl ?_
    simp only [vcA, seval, vV]
    (with_reducible apply v_call); (· simp only [vcA, seval, vV]; with_reducible rfl); (· exact HR); (· first | rfl | (simp only [vcA, seval]; omega)); (· simp only [vcA, seval, vV]; with_reducible rfl)
    have d := decide_eq_true hk
    simp only [vcA, seval, vV, d]
    rfl
  · rw [if_neg hk]
    refine call_of1 hmix tf_val_numbers rfl rfl ?_
    simp only [vcA, seval, vV]
    (with_reducible apply v_call); (· simp only [vcA, seval, vV]; with_reducible rfl); (· exact HR); (· first | rfl | (simp only [vcA, seval]; omega)); (· simp only [vcA, seval, vV]; with_reducible rfl)
    simp only [vcA, seval, vV, hk]
    refine v_loop (σ := {i : Nat // i ≤ x.l.length}) (fun i => ⟨[(1, I k), (5, .own 3000 1 (intR (numsL (x.l.take i.1) k))), (19, .pv (.sl 4 (V.rows x.l))), (20, I (x.l.length : Int)), (21, I (i.1 : Int))], [(2, [I x.k, I x.n, S (str x.s), .pv (.sl 4 (V.rows x.l))])], [(3000, (3, 1, (numsL (x.l.take i.1) k).length))], []⟩) (fun i => x.l.length - i.1) ⟨0, Nat.zero_le _⟩ ?_ ?_
    · refine ES.Lw.trans ?_ (adT_lw (k := 5) (d := 3000) (e := 3) (W := 1) (.inr (by decide)) rfl)
      exact lw_eq rfl
    rintro ⟨i, hi⟩
    have hnl := numsL_len (x.l.take i) k
    rw [List.length_take] at hnl
    by_cases hlt : i < x.l.length
    · have d1 : (i : Int) < (x.l.length : Int) := by omega
      obtain ⟨y, ey⟩ : ∃ y, x.l[i]? = some y := ⟨_, List.getElem?_eq_getElem hlt⟩
      have w1 : IntKind.i64.wrap ((i : Int) + 1) = ((i + 1 : Nat) : Int) := by rw [wrap64 (by omega) (by omega)]; omega
      have hs := numsL_succ k ey
      by_cases hy : y.k = k
      · rw [if_pos hy] at hs
        simp only [vcA, seval, vV, d1, ey, hy, w1, intR_app, intR_len, hm]
        refine ⟨⟨by omega, by omega⟩, loopK_of ⟨i + 1, by omega⟩ (by show x.l.length - (i + 1) < x.l.length - i; omega) ?_⟩
        simp only [hs, List.length_append, List.length_singleton]
        apply lw_of <;> simp [leL, lk, sv, Nat.beq, I, S, ES.kill, has, drp, nilT]
      · rw [if_neg hy, List.append_nil] at hs
        simp only [vcA, seval, vV, d1, ey, hy, w1]
        refine loopK_of ⟨i + 1, by omega⟩ (by show x.l.length - (i + 1) < x.l.length - i; omega) ?_
        simp only [hs]
        apply lw_of <;> simp [leL, lk, sv, Nat.beq, I, S, ES.kill, has, drp, nilT]
    · have d1 : ¬ (i : Int) < (x.l.length : Int) := by omega
      obtain rfl : i = x.l.length := by omega
      rw [List.take_length]
      simp only [vcA, seval, vV, d1]
theorem refs_ok (m : Nat) (x : V) (hx : VOk x) : SCalls Tryz.prog (gl0 m) 23 [tv x] [] (.pv (.sl 1 (intR (numsV x 3)))) [] := by
  refine call_of0 hmix tf_val_Refs rfl ?_
  have HN := numbers_ok m x 3 hx
  simp only [vcA, seval, vV]
  (with_reducible apply v_call); (· simp only [vcA, seval, vV]; with_reducible rfl); (· exact HN); (· first | rfl | (simp only [vcA, seval]; omega)); (· simp only [vcA, seval, vV]; with_reducible rfl)
  simp only [vcA, seval, vV]
theorem weaks_ok (m : Nat) (x : V) (hx : VOk x) : SCalls Tryz.prog (gl0 m) 24 [tv x] [] (.pv (.sl 1 (intR (numsV x 4)))) [] := by
  refine call_of0 hmix tf_val_Weaks rfl ?_
  have HN := numbers_ok m x 4 hx
  simp only [vcA, seval, vV]
  (with_reducible apply v_call); (· simp only [vcA, seval, vV]; with_reducible rfl); (· exact HN); (· first | rfl | (simp only [vcA, seval]; omega)); (· simp only [vcA, seval, vV]; with_reducible rfl)
  simp only [vcA, seval, vV]
theorem refNumbers_ok (g : Sh.Glob) (x : V) (k : Int) (hx : VOk x) : SCalls Tryz.prog g 69 [tv x, I k] [] (.pv (.sl 1 (intR (numsV x k)))) [] := by
  have HR := refRight_ok g x hx
  have hm : maxLen = 9223372036854775807 := rfl
  unfold numsV B at *
  cases hr : rightV x
  · rw [hr] at HR
    refine SCalls.out (y := .pv (.v (.slice none 0 0))) ?_ (wk_nil 1)
    refine call_of0 hmix tf_moraineref03_numbers rfl ?_
    simp only [vcA, seval, vV]
    (with_reducible apply v_call); (· simp only [vcA, seval, vV]; with_reducible rfl); (· exact HR); (· first | rfl | (simp only [vcA, seval]; omega)); (· simp only [vcA, seval, vV]; with_reducible rfl)
    simp only [vcA, seval, vV]
  rw [hr] at HR
  have h12 : x.l.length ≤ 12 := by
    by_cases h5 : x.k = 5
    · exact (rightL_inv hr h5).2.2.1
    · obtain ⟨_, _, e⟩ := right1_ok (rightV_one hr h5); rw [e]; simp
  rw [if_pos rfl]
  by_cases hk : x.k = k
  · rw [if_pos hk]
    refine call_of0 hmix tf_moraineref03_numbers rfl ?_
    simp only [vcA, seval, vV]
    (with_reducible apply v_call); (· simp only [vcA, seval, vV]; with_reducible rfl); (· exact HR); (· first | rfl | (simp only [vcA, seval]; omega)); (· simp only [vcA, seval, vV]; with_reducible rfl)
    have d := decide_eq_true hk
    simp only [vcA, seval, vV, d]
    rfl
  · rw [if_neg hk]
    refine call_of1 hmix tf_moraineref03_numbers rfl rfl ?_
    simp only [vcA, seval, vV]
    (with_reducible apply v_call); (· simp only [vcA, seval, vV]; with_reducible rfl); (· exact HR); (· first | rfl | (simp only [vcA, seval]; omega)); (· simp only [vcA, seval, vV]; with_reducible rfl)
    simp only [vcA, seval, vV, hk]
    refine v_loop (σ := {i : Nat // i ≤ x.l.length}) (fun i => ⟨[(1, I k), (2, .ptr 2 0), (6, .own 3000 1 (intR (numsL (x.l.take i.1) k))), (7, I (i.1 : Int))], [(2, [I x.k, I x.n, S (str x.s), .pv (.sl 4 (V.rows x.l))])], [(3000, (3, 1, (numsL (x.l.take i.1) k).length))], []⟩) (fun i => x.l.length - i.1) ⟨0, Nat.zero_le _⟩ ?_ ?_
    · refine ES.Lw.trans ?_ (adT_lw (k := 6) (d := 3000) (e := 3) (W := 1) (.inr (by decide)) rfl)
      exact lw_eq rfl
    rintro ⟨i, hi⟩
    have hnl := numsL_len (x.l.take i) k
    rw [List.length_take] at hnl
    by_cases hlt : i < x.l.length
    · have d1 : (i : Int) < (x.l.length : Int) := by omega
      obtain ⟨y, ey⟩ : ∃ y, x.l[i]? = some y := ⟨_, List.getElem?_eq_getElem hlt⟩
      have w1 : IntKind.i64.wrap ((i : Int) + 1) = ((i + 1 : Nat) : Int) := by rw [wrap64 (by omega) (by omega)]; omega
      have hs := numsL_succ k ey
      by_cases hy : y.k = k
      · rw [if_pos hy] at hs
        simp only [vcA, seval, vV, d1, ey, hy, w1, intR_app, intR_len, hm]
        refine ⟨⟨by omega, by omega⟩, loopK_of ⟨i + 1, by omega⟩ (by show x.l.length - (i + 1) < x.l.length - i; omega) ?_⟩
        simp only [hs, List.length_append, List.length_singleton]
        apply lw_of <;> simp [leL, lk, sv, Nat.beq, I, S, ES.kill, has, drp, nilT]
      · rw [if_neg hy, List.append_nil] at hs
        simp only [vcA, seval, vV, d1, ey, hy, w1]
        refine loopK_of ⟨i + 1, by omega⟩ (by show x.l.length - (i + 1) < x.l.length - i; omega) ?_
        simp only [hs]
        apply lw_of <;> simp [leL, lk, sv, Nat.beq, I, S, ES.kill, has, drp, nilT]
    · have d1 : ¬ (i : Int) < (x.l.length : Int) := by omega
      obtain rfl : i = x.l.length := by omega
      rw [List.take_length]
      simp only [vcA, seval, vV, d1]
theorem refRefs_ok (g : Sh.Glob) (x : V) (hx : VOk x) : SCalls Tryz.prog g 30 [tv x] [] (.pv (.sl 1 (intR (numsV x 3)))) [] := by
  refine call_of0 hmix tf_moraineref03_Refs rfl ?_
  have HN := refNumbers_ok g x 3 hx
  simp only [vcA, seval, vV]
  (with_reducible apply v_call); (· simp only [vcA, seval, vV]; with_reducible rfl); (· exact HN); (· first | rfl | (simp only [vcA, seval]; omega)); (· simp only [vcA, seval, vV]; with_reducible rfl)
  simp only [vcA, seval, vV]
theorem refWeaks_ok (g : Sh.Glob) (x : V) (hx : VOk x) : SCalls Tryz.prog g 31 [tv x] [] (.pv (.sl 1 (intR (numsV x 4)))) [] := by
  refine call_of0 hmix tf_moraineref03_Weaks rfl ?_
  have HN := refNumbers_ok g x 4 hx
  simp only [vcA, seval, vV]
  (with_reducible apply v_call); (· simp only [vcA, seval, vV]; with_reducible rfl); (· exact HN); (· first | rfl | (simp only [vcA, seval]; omega)); (· simp only [vcA, seval, vV]; with_reducible rfl)
  simp only [vcA, seval, vV]
theorem nums_ok (g : Sh.Glob) (l : List Int) (hl : l.length ≤ maxLen) : SCalls Tryz.prog g 22 [.pv (.sl 1 (intR l)), .pv (.sl 1 (intR l))] [] (B true) [] := by
  refine call_of0 hmix tf_morainelaw03_nums rfl ?_
  have hm : maxLen = 9223372036854775807 := rfl
  unfold B
  simp only [vcA, seval, vV, intR_len]
  refine v_loop (σ := {i : Nat // i ≤ l.length}) (fun i => ⟨[(0, .pv (.sl 1 (intR l))), (1, .pv (.sl 1 (intR l))), (5, I (i.1 : Int))], [], [], []⟩) (fun i => l.length - i.1) ⟨0, Nat.zero_le _⟩ ?_ ?_
  · apply lw_of <;> simp [leL, lk, sv, Nat.beq, I, S, ES.kill, has, drp, nilT]
  rintro ⟨i, hi⟩
  by_cases hlt : i < l.length
  · have d1 : (i : Int) < (l.length : Int) := by omega
    obtain ⟨y, ey⟩ : ∃ y, l[i]? = some y := ⟨_, List.getElem?_eq_getElem hlt⟩
    have w1 : IntKind.i64.wrap ((i : Int) + 1) = ((i + 1 : Nat) : Int) := by rw [wrap64 (by omega) (by omega)]; omega
    simp only [vcA, seval, vV, intR_len, intR_get, d1, ey, w1]
    refine loopK_of ⟨i + 1, by omega⟩ (by show l.length - (i + 1) < l.length - i; omega) ?_
    apply lw_of <;> simp [leL, lk, sv, Nat.beq, I, S, ES.kill, has, drp, nilT]
  · have d1 : ¬ (i : Int) < (l.length : Int) := by omega
    simp only [vcA, seval, vV, intR_len, d1]
end Go.Proofs.YthjphllpkcnehaaGreatDoor
end

section
/- The statements' odd. No statement of the program is proved here. -/
namespace Go.Proofs.YthjphllpkcnehaaGreatDoor
open Go Go.RowKit Go.Mor Go.Sh Go.Sh.Cd1
set_option maxRecDepth 100000
set_option maxHeartbeats 2000000
def numsTo (i : Nat) : List V := (List.range i).map fun j : Nat => V.mk 1 (j : Int) [] []
theorem numsTo_succ (i : Nat) : numsTo (i + 1) = numsTo i ++ [V.mk 1 (i : Int) [] []] := by simp [numsTo, List.range_succ]
/-- A value one thing of which is another one. -/
def oddV (v : V) (which n : Int) (s : List UInt8) : V :=
  if pickI which 6 = 0 then .mk n v.n v.s v.l else if pickI which 6 = 1 then .mk v.k n v.s v.l else if pickI which 6 = 2 then .mk v.k v.n s v.l
  else if pickI which 6 = 3 then .mk v.k v.n v.s (v.l ++ [.mk (pickI n 7) n [] []]) else if pickI which 6 = 4 then .mk v.k v.n v.s (v.l ++ numsTo (pickI n 14).toNat) else .mk v.k v.n v.s [v]
theorem V.rows_one (v : V) : V.rows [v] = [V.row v] := rfl
theorem pwk_row (l : List V) (k n : Int) : PWk (.sl 4 (V.rows l ++ [[.v (.int .i64 k), .v (.int .i64 n), .v (.string ⟨#[]⟩), .v (.slice none 0 0)]])) (.sl 4 (V.rows (l ++ [.mk k n [] []]))) := by
  rw [rowsApp, V.row_mk]
  refine pwk_last rfl (fun j c d h1 h2 => ?_)
  match j with
  | 0 => simp at h1 h2; subst h1; subst h2; exact .refl _
  | 1 => simp at h1 h2; subst h1; subst h2; exact .refl _
  | 2 => simp at h1 h2; subst h1; subst h2; exact .refl _
  | 3 => simp at h1 h2; subst h1; subst h2; exact pwk_nil 4
  | j + 4 => simp at h1
theorem odd_ok (g : Sh.Glob) (v : V) (which n : Int) (s : List UInt8) (hw : I64 which) (hn : I64 n) (hl : v.l.length ≤ 1000) : SCalls Tryz.prog g 25 [tv v, I which, I n, S (str s)] [] (tv (oddV v which n s)) [] := by
  have HP := pickI_ok g which 6 hw (by decide)
  have hm : maxLen = 9223372036854775807 := rfl
  unfold oddV
  generalize pickI which 6 = c at HP ⊢
  by_cases h0 : c = 0
  · refine call_of1 hmix tf_morainelaw03_odd rfl rfl ?_
    simp only [vcA, seval, vV]
    (with_reducible apply v_call); (· simp only [vcA, seval, vV]; with_reducible rfl); (· exact HP); (· first | rfl | (simp only [vcA, seval]; omega)); (· simp only [vcA, seval, vV]; with_reducible rfl)
    simp only [vcA, seval, vV, h0]
  by_cases h1 : c = 1
  · refine call_of1 hmix tf_morainelaw03_odd rfl rfl ?_
    simp only [vcA, seval, vV]
    (with_reducible apply v_call); (· simp only [vcA, seval, vV]; with_reducible rfl); (· exact HP); (· first | rfl | (simp only [vcA, seval]; omega)); (· simp only [vcA, seval, vV]; with_reducible rfl)
    simp only [vcA, seval, vV, h1]
  by_cases h2 : c = 2
  · refine call_of1 hmix tf_morainelaw03_odd rfl rfl ?_
    simp only [vcA, seval, vV]
    (with_reducible apply v_call); (· simp only [vcA, seval, vV]; with_reducible rfl); (· exact HP); (· first | rfl | (simp only [vcA, seval]; omega)); (· simp only [vcA, seval, vV]; with_reducible rfl)
    simp only [vcA, seval, vV, h2]
  by_cases h3 : c = 3
  · subst h3
    rw [if_neg (by decide), if_neg (by decide), if_neg (by decide), if_pos rfl]
    refine SCalls.out ?_ (wk4 (wk_pv (pwk_row v.l (pickI n 7) n)))
    refine call_of1 hmix tf_morainelaw03_odd rfl rfl ?_
    simp only [vcA, seval, vV]
    (with_reducible apply v_call); (· simp only [vcA, seval, vV]; with_reducible rfl); (· exact HP); (· first | rfl | (simp only [vcA, seval]; omega)); (· simp only [vcA, seval, vV]; with_reducible rfl)
    simp only [vcA, seval, vV]
    refine ⟨⟨by omega, by omega⟩, ?_⟩
    (with_reducible apply v_call); (· simp only [vcA, seval, vV]; with_reducible rfl); (· exact pickI_ok g _ _ hn (by decide)); (· first | rfl | (simp only [vcA, seval]; omega)); (· simp only [vcA, seval, vV]; with_reducible rfl)
    simp only [vcA, seval, vV]
    exact ⟨by omega, by omega⟩
  by_cases h4 : c = 4
  · subst h4
    rw [if_neg (by decide), if_neg (by decide), if_neg (by decide), if_neg (by decide), if_pos rfl]
    refine call_of1 hmix tf_morainelaw03_odd rfl rfl ?_
    simp only [vcA, seval, vV]
    (with_reducible apply v_call); (· simp only [vcA, seval, vV]; with_reducible rfl); (· exact HP); (· first | rfl | (simp only [vcA, seval]; omega)); (· simp only [vcA, seval, vV]; with_reducible rfl)
    simp only [vcA, seval, vV]
    have hp := pickI_lt (n := 14) (by decide) hn
    obtain ⟨N, hN⟩ : ∃ N : Nat, pickI n 14 = N := ⟨(pickI n 14).toNat, by omega⟩
    have HQ := pickI_ok g n 14 hn (by decide)
    rw [hN] at HQ hp ⊢
    refine v_loop (σ := { i : Nat // i ≤ N })
      (fun i => ⟨[(2, I n), (4, .ptr 4 0), (8, .ptr 8 0), (9, I (i.1 : Int))], [(4, [I v.k, I v.n, S (str v.s), .pv (.sl 4 (V.rows (v.l ++ numsTo i.1)))]), (8, [I 0, I 0, S ⟨#[]⟩, nilT])], [], []⟩)
      (fun i => N - i.1) ⟨0, Nat.zero_le _⟩ (lw_eq (by simp only [show v.l ++ numsTo 0 = v.l by simp [numsTo]]; rfl)) ?_
    rintro ⟨i, hi⟩
    have hlen : (v.l ++ numsTo i).length = v.l.length + i := by simp [numsTo]
    simp only [vcA, seval, vV, nilT]
    (with_reducible apply v_call); (· simp only [vcA, seval, vV]; with_reducible rfl); (· exact HQ); (· first | rfl | (simp only [vcA, seval]; omega)); (· simp only [vcA, seval, vV]; with_reducible rfl)
    generalize hL : v.l ++ numsTo i = L at hlen
    simp only [vcA, seval, vV]
    refine ⟨fun hlt => ⟨⟨by omega, by omega⟩, ⟨by omega, by omega⟩, ?_⟩, fun hge => ?_⟩
    · refine loopK_of ⟨i + 1, by omega⟩ (by show N - (i + 1) < N - i; omega) ?_
      have w1 : IntKind.i64.wrap ((i : Int) + 1) = ((i + 1 : Nat) : Int) := by rw [wrap64 (by omega) (by omega)]; omega
      refine ES.Lw.trans ?_ (reB_lw (k := 4) (ds := [I v.k, I v.n, S (str v.s), .pv (.sl 4 (V.rows (L ++ [.mk 1 (i : Int) [] []])))]) rfl rfl (fun j c d hc hd => ?_))
      · rw [show v.l ++ numsTo (i + 1) = L ++ [.mk 1 (i : Int) [] []] by rw [numsTo_succ, ← List.append_assoc, hL], w1]
        apply lw_of <;> simp [leL, lk, sv, Nat.beq, I, S, ES.kill, has, drp, nilT]
      · match j with
        | 0 => simp at hc hd; subst hc; subst hd; exact .refl _
        | 1 => simp at hc hd; subst hc; subst hd; exact .refl _
        | 2 => simp at hc hd; subst hc; subst hd; exact .refl _
        | 3 => simp at hc hd; subst hc; subst hd; exact wk_own_pv (pwk_row L 1 (i : Int))
        | j + 4 => simp at hc
    · obtain rfl : i = N := by omega
      rw [← hL]
  · refine call_of1 hmix tf_morainelaw03_odd rfl rfl ?_
    simp only [vcA, seval, vV]
    (with_reducible apply v_call); (· simp only [vcA, seval, vV]; with_reducible rfl); (· exact HP); (· first | rfl | (simp only [vcA, seval]; omega)); (· simp only [vcA, seval, vV]; with_reducible rfl)
    simp only [vcA, seval, vV, h0, h1, h2, h3, h4, V.rows_one]
end Go.Proofs.YthjphllpkcnehaaGreatDoor
end

section
/- The order of values is one order. No statement of the program is proved here. -/
namespace Go.Proofs.YthjphllpkcnehaaGreatDoor
open Go Go.Mor
/-- Three answers that fit each other. -/
structure Tri (p q r : Int) : Prop where
  a : -1 ≤ p ∧ p ≤ 1
  b : -1 ≤ q ∧ q ≤ 1
  c : -1 ≤ r ∧ r ≤ 1
  d : p = 0 → r = q
  e : q = 0 → r = p
  f : p = -1 → q = -1 → r = -1
  g : p = 1 → q = 1 → r = 1
theorem Tri.lex {p q r p' q' r' : Int} (h : Tri p q r) (h' : Tri p' q' r') : Tri (thenI p p') (thenI q q') (thenI r r') := by
  obtain ⟨a, b, c, d, e, f, g⟩ := h
  obtain ⟨a', b', c', d', e', f', g'⟩ := h'
  unfold thenI
  constructor <;> (repeat' split) <;> omega
theorem ordI_tri (a b c : Int) : Tri (ordI a b) (ordI b c) (ordI a c) := by
  unfold ordI
  constructor <;> (repeat' split) <;> omega
theorem ordI_anti (a b : Int) : ordI b a = -ordI a b := by
  unfold ordI; (repeat' split) <;> omega
/-- The order of texts, byte by byte. -/
def lexB : List UInt8 → List UInt8 → Int
  | [], [] => 0
  | [], _ :: _ => -1
  | _ :: _, [] => 1
  | a :: x, b :: y => thenI (ordI a.toNat b.toNat) (lexB x y)
theorem ordS_lex : ∀ (x y : List UInt8), ordS x y = lexB x y
  | [], [] => by simp [ordS, lexB, Op.bytesLess]
  | [], b :: y => by simp [ordS, lexB, Op.bytesLess]
  | a :: x, [] => by simp [ordS, lexB, Op.bytesLess]
  | a :: x, b :: y => by
    have ih := ordS_lex x y
    simp only [lexB, ← ih]
    unfold ordS ordI thenI
    simp only [Op.bytesLess]
    have hlt : (a < b) ↔ a.toNat < b.toNat := UInt8.lt_iff_toNat_lt
    have heq : (a = b) ↔ a.toNat = b.toNat := ⟨fun h => by rw [h], fun h => UInt8.toNat_inj.1 h⟩
    by_cases h1 : a.toNat < b.toNat
    · have : a < b := hlt.2 h1
      simp [this]; omega
    · have n1 : ¬ a < b := fun h => h1 (hlt.1 h)
      by_cases h2 : a = b
      · subst h2; simp
      · have n2 : ¬ a.toNat = b.toNat := fun h => h2 (heq.2 h)
        have h3 : b.toNat < a.toNat := by omega
        simp [n1, h2]; omega
def Rng (p : Int) : Prop := -1 ≤ p ∧ p ≤ 1
theorem Rng.lex {p q : Int} (h : Rng p) (h' : Rng q) : Rng (thenI p q) := by unfold thenI; split <;> assumption
theorem ordI_rng (a b : Int) : Rng (ordI a b) := (ordI_tri a a b).c
theorem tri_nxx {q : Int} (h : Rng q) : Tri (-1) q (-1) := by obtain ⟨h1, h2⟩ := h; constructor <;> omega
theorem tri_pnx {r : Int} (h : Rng r) : Tri 1 (-1) r := by obtain ⟨h1, h2⟩ := h; constructor <;> omega
theorem tri_xpp {p : Int} (h : Rng p) : Tri p 1 1 := by obtain ⟨h1, h2⟩ := h; constructor <;> omega
theorem lexB_rng : ∀ (x y : List UInt8), Rng (lexB x y)
  | [], [] => by simp [lexB, Rng]
  | [], b :: y => by simp [lexB, Rng]
  | a :: x, [] => by simp [lexB, Rng]
  | a :: x, b :: y => by simp only [lexB]; exact (ordI_rng _ _).lex (lexB_rng x y)
theorem lexB_tri : ∀ (x y z : List UInt8), Tri (lexB x y) (lexB y z) (lexB x z)
  | [], [], [] => by constructor <;> simp [lexB]
  | [], [], c :: z => by constructor <;> simp [lexB]
  | [], b :: y, [] => by constructor <;> simp [lexB]
  | a :: x, [], [] => by constructor <;> simp [lexB]
  | a :: x, [], c :: z => by have := lexB_rng (a :: x) (c :: z); exact tri_pnx this
  | [], b :: y, c :: z => by have := lexB_rng (b :: y) (c :: z); exact tri_nxx this
  | a :: x, b :: y, [] => by have := lexB_rng (a :: x) (b :: y); exact tri_xpp this
  | a :: x, b :: y, c :: z => by
    simp only [lexB]; exact (ordI_tri _ _ _).lex (lexB_tri x y z)
theorem thenI_anti {a b c d : Int} (h : b = -a) (h' : d = -c) : thenI b d = -thenI a c := by
  unfold thenI; (repeat' split) <;> omega
theorem lexB_anti : ∀ (x y : List UInt8), lexB y x = -lexB x y
  | [], [] => by simp [lexB]
  | [], b :: y => by simp [lexB]
  | a :: x, [] => by simp [lexB]
  | a :: x, b :: y => by simp only [lexB]; exact thenI_anti (ordI_anti _ _) (lexB_anti x y)
theorem ordS_tri (a b c : List UInt8) : Tri (ordS a b) (ordS b c) (ordS a c) := by rw [ordS_lex, ordS_lex, ordS_lex]; exact lexB_tri a b c
theorem ordS_anti (a b : List UInt8) : ordS b a = -ordS a b := by rw [ordS_lex, ordS_lex]; exact lexB_anti a b
theorem ordS_rng (a b : List UInt8) : Rng (ordS a b) := by rw [ordS_lex]; exact lexB_rng a b
theorem cmpL_rng : ∀ (x y : List V), (∀ a ∈ x, ∀ b, Rng (cmpV a b)) → Rng (cmpL x y)
  | [], [], _ => by simp [cmpL, Rng]
  | [], b :: y, _ => by simp [cmpL, Rng]
  | a :: x, [], _ => by simp [cmpL, Rng]
  | a :: x, b :: y, h => by simp only [cmpL]; exact (h a (by simp) b).lex (cmpL_rng x y fun c hc => h c (by simp [hc]))
theorem cmpV_rngN (n : Nat) : ∀ x y : V, SizeOf.sizeOf x ≤ n → Rng (cmpV x y) := by
  induction n with
  | zero => intro x y h; cases x; simp at h
  | succ n ih =>
    intro x y h
    rw [cmpV_eq]
    refine (ordI_rng _ _).lex ((ordI_rng _ _).lex ((ordS_rng _ _).lex (cmpL_rng _ _ fun a ha b => ih a b ?_)))
    have := List.sizeOf_lt_of_mem ha
    cases x; simp [V.l] at h this ⊢; omega
theorem cmpV_rng (x y : V) : Rng (cmpV x y) := cmpV_rngN _ x y (Nat.le_refl _)
theorem cmpL_rng' (x y : List V) : Rng (cmpL x y) := cmpL_rng x y fun a _ b => cmpV_rng a b
theorem cmpL_tri : ∀ (x y z : List V), (∀ a ∈ x, ∀ b c, Tri (cmpV a b) (cmpV b c) (cmpV a c)) → Tri (cmpL x y) (cmpL y z) (cmpL x z)
  | [], [], [], _ => by constructor <;> simp [cmpL]
  | [], [], c :: z, _ => by constructor <;> simp [cmpL]
  | [], b :: y, [], _ => by constructor <;> simp [cmpL]
  | a :: x, [], [], _ => by constructor <;> simp [cmpL]
  | a :: x, [], c :: z, _ => by have := cmpL_rng' (a :: x) (c :: z); rw [show cmpL (a :: x) [] = 1 by simp [cmpL], show cmpL [] (c :: z) = -1 by simp [cmpL]]; exact tri_pnx this
  | [], b :: y, c :: z, _ => by have := cmpL_rng' (b :: y) (c :: z); rw [show cmpL [] (b :: y) = -1 by simp [cmpL], show cmpL [] (c :: z) = -1 by simp [cmpL]]; exact tri_nxx this
  | a :: x, b :: y, [], _ => by have := cmpL_rng' (a :: x) (b :: y); rw [show cmpL (b :: y) [] = 1 by simp [cmpL], show cmpL (a :: x) [] = 1 by simp [cmpL]]; exact tri_xpp this
  | a :: x, b :: y, c :: z, h => by
    simp only [cmpL]; exact (h a (by simp) b c).lex (cmpL_tri x y z fun d hd => h d (by simp [hd]))
theorem cmpV_triN (n : Nat) : ∀ x y z : V, SizeOf.sizeOf x ≤ n → Tri (cmpV x y) (cmpV y z) (cmpV x z) := by
  induction n with
  | zero => intro x y z h; cases x; simp at h
  | succ n ih =>
    intro x y z h
    rw [cmpV_eq x y, cmpV_eq y z, cmpV_eq x z]
    refine (ordI_tri _ _ _).lex ((ordI_tri _ _ _).lex ((ordS_tri _ _ _).lex (cmpL_tri _ _ _ fun a ha b c => ih a b c ?_)))
    have := List.sizeOf_lt_of_mem ha
    cases x; simp [V.l] at h this ⊢; omega
theorem cmpV_tri (x y z : V) : Tri (cmpV x y) (cmpV y z) (cmpV x z) := cmpV_triN _ x y z (Nat.le_refl _)
theorem cmpL_anti : ∀ (x y : List V), (∀ a ∈ x, ∀ b, cmpV b a = -cmpV a b) → cmpL y x = -cmpL x y
  | [], [], _ => by simp [cmpL]
  | [], b :: y, _ => by simp [cmpL]
  | a :: x, [], _ => by simp [cmpL]
  | a :: x, b :: y, h => by simp only [cmpL]; exact thenI_anti (h a (by simp) b) (cmpL_anti x y fun c hc => h c (by simp [hc]))
theorem cmpV_antiN (n : Nat) : ∀ x y : V, SizeOf.sizeOf x ≤ n → cmpV y x = -cmpV x y := by
  induction n with
  | zero => intro x y h; cases x; simp at h
  | succ n ih =>
    intro x y h
    rw [cmpV_eq x y, cmpV_eq y x]
    refine thenI_anti (ordI_anti _ _) (thenI_anti (ordI_anti _ _) (thenI_anti (ordS_anti _ _) (cmpL_anti _ _ fun a ha b => ih a b ?_)))
    have := List.sizeOf_lt_of_mem ha
    cases x; simp [V.l] at h this ⊢; omega
theorem cmpV_anti (x y : V) : cmpV y x = -cmpV x y := cmpV_antiN _ x y (Nat.le_refl _)
theorem cmpV_self (x : V) : cmpV x x = 0 := by have := cmpV_anti x x; omega
theorem thenI_zero {a b : Int} (h : thenI a b = 0) : a = 0 ∧ b = 0 := by
  unfold thenI at h
  by_cases ha : a = 0
  · rw [if_pos ha] at h; exact ⟨ha, h⟩
  · rw [if_neg ha] at h; exact absurd h ha
theorem ordI_zero {a b : Int} (h : ordI a b = 0) : a = b := by
  unfold ordI at h
  by_cases h1 : a < b
  · rw [if_pos h1] at h; cases h
  · rw [if_neg h1] at h
    by_cases h2 : b < a
    · rw [if_pos h2] at h; cases h
    · omega
theorem lexB_zero : ∀ {x y : List UInt8}, lexB x y = 0 → x = y
  | [], [], _ => rfl
  | [], b :: y, h => by simp [lexB] at h
  | a :: x, [], h => by simp [lexB] at h
  | a :: x, b :: y, h => by
    simp only [lexB] at h
    obtain ⟨h1, h2⟩ := thenI_zero h
    have := ordI_zero h1
    rw [lexB_zero h2, UInt8.toNat_inj.1 (by omega : a.toNat = b.toNat)]
theorem cmpL_zero : ∀ {x y : List V}, (∀ a ∈ x, ∀ b, cmpV a b = 0 → a = b) → cmpL x y = 0 → x = y
  | [], [], _, _ => rfl
  | [], b :: y, _, h => by simp [cmpL] at h
  | a :: x, [], _, h => by simp [cmpL] at h
  | a :: x, b :: y, H, h => by
    simp only [cmpL] at h
    obtain ⟨h1, h2⟩ := thenI_zero h
    rw [H a (by simp) b h1, cmpL_zero (fun c hc => H c (by simp [hc])) h2]
theorem cmpV_zeroN (n : Nat) : ∀ x y : V, SizeOf.sizeOf x ≤ n → cmpV x y = 0 → x = y := by
  induction n with
  | zero => intro x y h; cases x; simp at h
  | succ n ih =>
    intro x y h h0
    rw [cmpV_eq] at h0
    obtain ⟨h1, h0⟩ := thenI_zero h0
    obtain ⟨h2, h0⟩ := thenI_zero h0
    obtain ⟨h3, h4⟩ := thenI_zero h0
    rw [ordS_lex] at h3
    have hl := cmpL_zero (fun a ha b => ih a b (by
      have := List.sizeOf_lt_of_mem ha
      cases x; simp [V.l] at h this ⊢; omega)) h4
    rw [← V.eta x, ← V.eta y, ordI_zero h1, ordI_zero h2, lexB_zero h3, hl]
theorem cmpV_zero {x y : V} : cmpV x y = 0 ↔ x = y := ⟨cmpV_zeroN _ x y (Nat.le_refl _), fun h => h ▸ cmpV_self x⟩
end Go.Proofs.YthjphllpkcnehaaGreatDoor
end

section
/- Values one thing of which is another one are small. No statement of the program is proved here. -/
namespace Go.Proofs.YthjphllpkcnehaaGreatDoor
open Go Go.RowKit Go.Mor Go.Sh Go.Sh.Cd1
set_option maxRecDepth 100000
set_option maxHeartbeats 4000000
theorem bbEql (p q : Bool) : scal Tryz.prog (do eqGuard .eql 4 (.const (.bool p)) (.const (.bool q)) (.bool p) (.bool q); binOp .eql 4 (.bool p) (.bool q)) = some (.pv (.v (.bool (p == q))), .no) := by
  cases p <;> cases q <;> kernel_rfl
theorem bbNe (p : Bool) : scal Tryz.prog (do eqGuard .neq 4 (.const (.bool p)) (.const (.bool p)) (.bool p) (.bool p); binOp .neq 4 (.bool p) (.bool p)) = some (.pv (.v (.bool false)), .no) := by
  cases p <;> kernel_rfl
theorem small_flat {x : V} (h : x.l.length ≤ 1000) (hs : ∀ y ∈ x.l, y.l = []) : VSmall x := by
  obtain ⟨k, n, s, l⟩ := x
  have hm : maxLen = 9223372036854775807 := rfl
  refine .mk (by simp only [V.l] at h; omega) (fun y hy => ?_)
  have := hs y hy
  obtain ⟨k', n', s', l'⟩ := y
  simp only [V.l] at this; subst this
  exact .mk (by simp) (by simp)
theorem oneL_flat (l : List R1) : ∀ y ∈ oneL l, y.l = [] := by
  intro y hy
  simp only [oneL, List.mem_map] at hy
  obtain ⟨r, _, rfl⟩ := hy
  exact valOne_l _ _ _
theorem valOf_flat (x : RawV) : (valOf x).l.length ≤ 12 ∧ ∀ y ∈ (valOf x).l, y.l = [] := by
  by_cases h : pickI x.k 7 < 5
  · rw [valOf_l_small h]; simp
  · have : (valOf x).l = oneL x.l := by unfold valOf; rw [if_neg h]; rfl
    rw [this]
    exact ⟨by simp [oneL]; omega, oneL_flat _⟩
theorem valOf_vsmall (x : RawV) : VSmall (valOf x) := small_flat (by have := (valOf_flat x).1; omega) (valOf_flat x).2
theorem oddV_small (v : V) (which n : Int) (s : List UInt8) (hn : I64 n) (hl : v.l.length ≤ 12) (hf : ∀ y ∈ v.l, y.l = []) : VSmall (oddV v which n s) := by
  have hp := pickI_lt (n := 14) (by decide) hn
  unfold oddV
  split
  · exact small_flat (by rw [Vl]; omega) hf
  split
  · exact small_flat (by rw [Vl]; omega) hf
  split
  · exact small_flat (by rw [Vl]; omega) hf
  split
  · refine small_flat (by rw [Vl, List.length_append]; simp; omega) (fun y hy => ?_)
    simp only [Vl, List.mem_append, List.mem_singleton] at hy
    rcases hy with hy | rfl
    · exact hf y hy
    · rfl
  split
  · refine small_flat (by rw [Vl, List.length_append]; simp [numsTo]; omega) (fun y hy => ?_)
    simp only [Vl, numsTo, List.mem_append, List.mem_map] at hy
    rcases hy with hy | ⟨j, _, rfl⟩
    · exact hf y hy
    · rfl
  · refine .mk (by have hm : maxLen = 9223372036854775807 := rfl; simp; omega) (fun y hy => ?_)
    simp only [List.mem_singleton] at hy; subst hy
    exact small_flat (by omega) hf
end Go.Proofs.YthjphllpkcnehaaGreatDoor
end

section
/- What is laid as bytes is read back; what is cut off is none. No statement of the program is proved here. -/
namespace Go.Proofs.YthjphllpkcnehaaGreatDoor
open Go Go.Mor
abbrev Rx (α : Type) := List UInt8 → Int → Except Int (α × Int)
def bindE {α β : Type} (r : Rx α) (f : α → Rx β) : Rx β := fun s a => match r s a with | .ok (x, b) => f x s b | .error e => .error e
def EncE {α : Type} (r : Rx α) (e : List UInt8) (v : α) : Prop := ∀ pre post : List UInt8, r (pre ++ e ++ post) pre.length = .ok (v, ((pre.length + e.length : Nat) : Int))
def CutE {α : Type} (r : Rx α) : Prop := ∀ (s : List UInt8) (a : Int) (v : α) (b : Int) (k : Nat), r s a = .ok (v, b) → a ≤ k → a ≤ b ∧ (b ≤ k → r (s.take k) a = .ok (v, b)) ∧ (k < b → r (s.take k) a = .error 10)
theorem EncE.bind {α β : Type} {r : Rx α} {f : α → Rx β} {e1 e2 : List UInt8} {v1 : α} {v2 : β} (h1 : EncE r e1 v1) (h2 : EncE (f v1) e2 v2) : EncE (bindE r f) (e1 ++ e2) v2 := by
  intro pre post
  unfold bindE
  have a1 := h1 pre (e2 ++ post)
  have a2 := h2 (pre ++ e1) post
  rw [show pre ++ (e1 ++ e2) ++ post = pre ++ e1 ++ (e2 ++ post) by simp, a1]
  simp only []
  rw [show pre ++ e1 ++ (e2 ++ post) = pre ++ e1 ++ e2 ++ post by simp, show pre.length + e1.length = (pre ++ e1).length by simp, a2]
  simp [Nat.add_assoc]
theorem CutE.bind {α β : Type} {r : Rx α} {f : α → Rx β} (h1 : CutE r) (h2 : ∀ v, CutE (f v)) : CutE (bindE r f) := by
  intro s a v b k h hk
  unfold bindE at h ⊢
  cases hr : r s a with
  | error e => rw [hr] at h; cases h
  | ok q =>
    obtain ⟨x, c⟩ := q
    rw [hr] at h
    simp only [] at h
    obtain ⟨p1, p2, p3⟩ := h1 s a x c k hr hk
    have hc : c ≤ b := (h2 x s c v b c.toNat h (by omega)).1
    refine ⟨by omega, fun hb => ?_, fun hb => ?_⟩
    · rw [p2 (by omega)]
      exact (h2 x s c v b k h (by omega)).2.1 hb
    · by_cases hck : c ≤ k
      · rw [p2 hck]; exact (h2 x s c v b k h hck).2.2 hb
      · rw [p3 (by omega)]
theorem CutE.ret {α : Type} (v : α) : CutE (fun _ a => .ok (v, a)) := by
  intro s a w b k h hk
  cases h
  exact ⟨Int.le_refl _, fun _ => rfl, fun h => by omega⟩
theorem CutE.fail {α : Type} (e : Int) : CutE (fun _ _ => (.error e : Except Int (α × Int))) := fun s a v b k h => by cases h
theorem cutE_num (lo hi : Int) : CutE (fun s a => dNum s a lo hi) := by
  intro s a n b k h hk
  obtain ⟨hr, h1, h2⟩ := dNum_inv h
  obtain ⟨p1, p2, p3⟩ := cuts_num s a n b k hr hk
  refine ⟨p1, fun hb => ?_, fun hb => ?_⟩
  · show dNum (s.take k) a lo hi = _
    unfold dNum; rw [p2 hb]; simp only []; rw [if_neg (by omega)]
  · show dNum (s.take k) a lo hi = _
    unfold dNum; rw [p3 hb]
theorem dText_inv {s : List UInt8} {a : Int} {t : List UInt8} {b : Int} (h : dText s a = .ok (t, b)) : readText s a = some (t, b) ∧ rightText t = true := by
  unfold dText at h
  cases hr : readText s a with
  | none => rw [hr] at h; cases h
  | some q =>
    obtain ⟨t', b'⟩ := q
    rw [hr] at h
    simp only [] at h
    by_cases hh : rightText t' = true
    · rw [if_pos hh] at h; cases h; exact ⟨rfl, hh⟩
    · rw [if_neg hh] at h; cases h
theorem cutE_text : CutE dText := by
  intro s a t b k h hk
  obtain ⟨hr, h1⟩ := dText_inv h
  obtain ⟨p1, p2, p3⟩ := cuts_text s a t b k hr hk
  refine ⟨p1, fun hb => ?_, fun hb => ?_⟩
  · unfold dText; rw [p2 hb]; simp only []; rw [if_pos h1]
  · unfold dText; rw [p3 hb]
theorem encE_num {x lo hi : Int} (hx : I64 x) (h1 : lo ≤ x) (h2 : x ≤ hi) : EncE (fun s a => dNum s a lo hi) (num x) x := by
  intro pre post
  show dNum _ _ _ _ = _
  unfold dNum; rw [enc_num x hx.1 hx.2 pre post]; simp only []; rw [if_neg (by omega)]
theorem encE_text {t : List UInt8} (h : rightText t = true) : EncE dText (text t) t := by
  intro pre post
  unfold dText; rw [enc_text t (by have := rightText_len h; omega) pre post]; simp only []; rw [if_pos h]
theorem EncE.ret {α : Type} (v : α) : EncE (fun _ a => .ok (v, a)) [] v := fun pre post => by simp
theorem dRest_eq (k : Int) : (fun s b => dRest s k b) = (if k = 1 then bindE (fun s b => dNum s b (-1000000000000000) 1000000000000000) (fun n => fun _ c => .ok (.mk 1 n [] [], c))
    else if k = 2 then bindE dText (fun t => fun _ c => .ok (.mk 2 0 t [], c))
    else if k = 3 ∨ k = 4 then bindE (fun s b => dNum s b (-20) 100000) (fun n => if n = 0 then (fun _ _ => .error 30) else (fun _ c => .ok (.mk k n [] [], c)))
    else (fun _ b => .ok (.mk k 0 [] [], b))) := by
  funext s b
  unfold dRest
  by_cases e1 : k = 1
  · simp only [e1, if_true, bindE]
    cases dNum s b (-1000000000000000) 1000000000000000 <;> rfl
  by_cases e2 : k = 2
  · rw [if_neg e1, if_neg e1, if_pos e2, if_pos e2]
    unfold bindE
    cases dText s b <;> rfl
  by_cases e3 : k = 3 ∨ k = 4
  · simp only [e1, e2, e3, if_true, if_false, bindE]
    cases dNum s b (-20) 100000 with
    | error e => rfl
    | ok q => obtain ⟨n, c⟩ := q; simp only []; split <;> rfl
  · simp only [e1, e2, e3, if_false]
theorem cutE_rest (k : Int) : CutE (fun s b => dRest s k b) := by
  rw [dRest_eq]
  split
  · exact (cutE_num _ _).bind fun n => CutE.ret _
  split
  · exact cutE_text.bind fun t => CutE.ret _
  split
  · refine (cutE_num _ _).bind fun n => ?_
    split
    · exact CutE.fail 30
    · exact CutE.ret _
  · exact CutE.ret _
theorem dVal1_eq : dVal1 = bindE (fun s a => dNum s a 0 4) (fun k => fun s b => dRest s k b) := by
  funext s a; simp only [dVal1, bindE]; cases dNum s a 0 4 <;> rfl
theorem cutE_val1 : CutE dVal1 := by rw [dVal1_eq]; exact (cutE_num _ _).bind cutE_rest
theorem dLoop_eq (n : Nat) (l : List V) : (fun s a => dLoop s (n + 1) a l) = bindE dVal1 (fun v => fun s b => dLoop s n b (l ++ [v])) := by
  funext s a; simp only [dLoop, bindE]; cases dVal1 s a <;> rfl
theorem cutE_loop : ∀ (n : Nat) (l : List V), CutE (fun s a => dLoop s n a l)
  | 0, l => by simp only [dLoop]; exact CutE.ret _
  | n + 1, l => by rw [dLoop_eq]; exact cutE_val1.bind fun v => cutE_loop n _
theorem dItems_eq : dItems = bindE (fun s a => dNum s a 0 12) (fun n => fun s b => dLoop s n.toNat b []) := by
  funext s a; simp only [dItems, bindE]; cases dNum s a 0 12 <;> rfl
theorem dVal_eq : dVal = bindE (fun s a => dNum s a 0 5) (fun k => if k = 5 then bindE dItems (fun l => fun _ c => .ok (.mk 5 0 [] l, c)) else fun s b => dRest s k b) := by
  funext s a; simp only [dVal, bindE]
  cases dNum s a 0 5 with
  | error e => rfl
  | ok q =>
    obtain ⟨k, b⟩ := q
    simp only []
    by_cases h5 : k = 5
    · rw [if_pos h5, if_pos h5]; simp only [bindE]; cases dItems s b <;> rfl
    · rw [if_neg h5, if_neg h5]
theorem cutE_val : CutE dVal := by
  rw [dVal_eq]
  refine (cutE_num _ _).bind fun k => ?_
  split
  · rw [dItems_eq]; exact ((cutE_num _ _).bind fun n => cutE_loop _ _).bind fun l => CutE.ret _
  · exact cutE_rest k
theorem encE_one {x : V} (h : right1 x = true) (hi : Int) (hh : 4 ≤ hi) : EncE (bindE (fun s a => dNum s a 0 hi) (fun k => fun s b => dRest s k b)) (enc1 x) x := by
  have hok := (right1_ok h).1
  rcases right1_inv h with rfl | ⟨n, h1, h2, rfl⟩ | ⟨s, h1, rfl⟩ | ⟨k, n, hk, h1, rfl⟩
  · have he : enc1 (.mk 0 0 [] []) = num 0 ++ [] := rfl
    rw [he]
    refine (encE_num (by unfold I64; decide) (by decide) (by omega)).bind ?_
    rw [dRest_eq]; exact EncE.ret _
  · have he : enc1 (.mk 1 n [] []) = num 1 ++ (num n ++ []) := by rw [List.append_nil]; rfl
    rw [he]
    refine (encE_num (by unfold I64; decide) (by decide) (by omega)).bind ?_
    rw [dRest_eq, if_pos rfl]
    exact (encE_num hok.2.1 h1 h2).bind (EncE.ret _)
  · have he : enc1 (.mk 2 0 s []) = num 2 ++ (text s ++ []) := by rw [List.append_nil]; rfl
    rw [he]
    refine (encE_num (by unfold I64; decide) (by decide) (by omega)).bind ?_
    rw [dRest_eq, if_neg (by decide), if_pos rfl]
    exact (encE_text h1).bind (EncE.ret _)
  · have hid := rightID_inv h1
    have he : enc1 (.mk k n [] []) = num k ++ (num n ++ []) := by
      unfold enc1; rw [Vk, Vn, if_pos (by omega), List.append_nil]
    rw [he]
    refine (encE_num (x := k) hok.1 (by omega) (by omega)).bind ?_
    rw [dRest_eq, if_neg (by omega), if_neg (by omega), if_pos hk]
    refine (encE_num (x := n) hok.2.1 (by omega) (by omega)).bind ?_
    rw [if_neg (by omega)]
    exact EncE.ret _
theorem encE_val1 {x : V} (h : right1 x = true) : EncE dVal1 (enc1 x) x := by rw [dVal1_eq]; exact encE_one h 4 (by decide)
theorem encE_loop : ∀ (l acc : List V), (∀ y ∈ l, right1 y = true) → EncE (fun s a => dLoop s l.length a acc) (l.flatMap enc1) (acc ++ l)
  | [], acc, _ => by simp only [List.length_nil, dLoop, List.flatMap_nil, List.append_nil]; exact EncE.ret _
  | y :: l, acc, h => by
    rw [List.length_cons, dLoop_eq, List.flatMap_cons]
    refine (encE_val1 (h y (by simp))).bind ?_
    have := encE_loop l (acc ++ [y]) (fun z hz => h z (by simp [hz]))
    rw [List.append_assoc] at this
    exact this
theorem encE_val {x : V} (h : rightV x = true) : EncE dVal (encV x) x := by
  by_cases h5 : x.k = 5
  · obtain ⟨h1, h2, h3, h4⟩ := rightL_inv h h5
    have he : encV x = num 5 ++ ((num x.l.length ++ x.l.flatMap enc1) ++ []) := by unfold encV; rw [if_pos h5]; simp
    have hx : x = .mk 5 0 [] x.l := by conv => lhs; rw [← V.eta x, h5, h1, h2]
    rw [he, dVal_eq]
    refine (encE_num (by unfold I64; decide) (by decide) (by decide)).bind ?_
    rw [if_pos rfl]
    have hI : EncE dItems (num x.l.length ++ x.l.flatMap enc1) x.l := by
      rw [dItems_eq]
      refine (encE_num (by unfold I64; omega) (by omega) (by omega)).bind ?_
      have := encE_loop x.l [] (fun y hy => (h4 y hy).2)
      rw [Int.toNat_natCast]
      simpa using this
    have := hI.bind (β := V) (f := fun l => fun _ c => .ok (V.mk 5 0 [] l, c)) (EncE.ret (V.mk 5 0 [] x.l))
    rw [← hx] at this
    exact this
  · have hr := rightV_one h h5
    have he : encV x = enc1 x := by unfold encV; rw [if_neg h5]
    rw [he]
    have h0 := encE_one hr 5 (by decide)
    intro pre post
    have := h0 pre post
    rw [dVal_eq]
    simp only [bindE] at this ⊢
    cases hn : dNum (pre ++ enc1 x ++ post) pre.length 0 5 with
    | error e => rw [hn] at this; cases this
    | ok q =>
      obtain ⟨k, b⟩ := q
      rw [hn] at this
      simp only [] at this ⊢
      have hk5 : k ≠ 5 := by
        intro hk
        have hd := (dNum_inv hn).1
        have hhd : ∃ r, enc1 x = num x.k ++ r := ⟨_, rfl⟩
        obtain ⟨r, hr'⟩ := hhd
        have hok := (right1_ok hr).1.1
        have := enc_num x.k hok.1 hok.2 pre (r ++ post)
        rw [show pre ++ num x.k ++ (r ++ post) = pre ++ enc1 x ++ post by rw [hr']; simp, hd] at this
        cases this
        exact h5 hk
      rw [if_neg hk5]
      exact this
theorem EncE.cut {α : Type} {r : Rx α} {e : List UInt8} {v : α} (h : EncE r e v) (hc : CutE r) (k : Nat) (hk : k < e.length) : r (e.take k) 0 = .error 10 := by
  have h0 := h [] []
  simp at h0
  exact (hc e 0 v _ k h0 (by omega)).2.2 (by omega)
theorem EncE.begins {α : Type} {r : Rx α} {e e' : List UInt8} {v v' : α} (h : EncE r e v) (h' : EncE r e' v') (hp : e <+: e') : v = v' := by
  obtain ⟨t, rfl⟩ := hp
  have a := h [] t
  have b := h' [] []
  simp at a b
  rw [a] at b
  simp only [Except.ok.injEq, Prod.mk.injEq] at b
  exact b.1
end Go.Proofs.YthjphllpkcnehaaGreatDoor
end

section
/- The law ValRefs, walked. No statement of the program is proved here. -/
namespace Go.Proofs.YthjphllpkcnehaaGreatDoor
open Go Go.RowKit Go.Mor Go.Sh Go.Sh.Cd1 Go.Sh.Cd2
set_option maxRecDepth 100000
set_option maxHeartbeats 8000000
theorem wrong_rightV (k : Int) (s : List UInt8) (l : List V) : rightV (.mk k 1152921504606846976 s l) = false := by
  have h : ∀ (c : Prop) [Decidable c] (a b : Bool), a = false → b = false → (if c then a else b) = false := by intro c _ a b ha hb; split <;> assumption
  unfold rightV right1 rightID bare
  simp only [Vk, Vn, Vs, Vl]
  refine h _ _ _ (by simp) (h _ _ _ (by simp) (h _ _ _ (by simp) (h _ _ _ (by simp) (h _ _ _ (by simp) rfl))))
theorem numsL_one {v : V} (h : rightV v = true) {k : Int} (h5 : k ≠ 5) : numsL (v :: v.l) k = numsV v k := by
  unfold numsV
  rw [if_pos h]
  by_cases hk : v.k = k
  · rw [if_pos hk]
    obtain ⟨_, _, e⟩ := right1_ok (rightV_one h (by omega))
    rw [e]; simp [numsL, hk]
  · rw [if_neg hk]; simp [numsL, hk]
theorem rowsCons (v : V) : [[PV.v (.int .i64 v.k), .v (.int .i64 v.n), .v (.string (str v.s)), .sl 4 (V.rows v.l)]] ++ V.rows v.l = V.rows (v :: v.l) := by
  rw [rows_eq (v :: v.l), List.map_cons, row4 v]; rfl
theorem valRefs_ok (a0 a1 : Addr) (m : Nat) (x : RawV) (hx : x.ok) : SCalls Tryz.prog (glA a0 a1 m) 6 [x.tv] [] (.pv (.v (.bool true))) [] := by
  refine call_of0 hmix tf_morainelaw03_ValRefs rfl ?_
  have hm : maxLen = 9223372036854775807 := rfl
  have HA := sc_1A (awake_ok a0 a1 m)
  have HX := valOf_ok (glA a0 a1 m) x hx
  have rx := valOf_right x hx
  unfold RawV.tv at HX ⊢
  generalize valOf x = v at HX rx
  obtain ⟨o1, s1, _, h12⟩ := rightV_vok rx
  have HE : SCalls Tryz.prog (glA a0 a1 m) 17 [tv v] [] (.tuple [S (str (textV v)), I 0]) [] := by
    have := valText_ok' m v o1
    unfold textTVv at this; rw [if_pos rx] at this; exact sc_TA this
  have l1 := textV_len rx
  have HD := sc_1A <| read_ok a0 a1 m (textV v) 0 (by omega) (by omega) (by have := readV_text rx [] (post := []) (by intro c r e; cases e); simpa using this)
  have HF0 := encode_ok a0 a1 m v o1
  unfold encTV at HF0
  rw [if_pos rx] at HF0
  have HF := sc_1A HF0
  have l2 := encV_len rx
  have HG := sc_1A <| decode_ok a0 a1 m (encV v) 0 (by unfold SmallS; omega) (by omega) (by omega) (by have := encE_val rx [] []; simpa using this)
  have H3 := sc_TA (a0 := a0) (a1 := a1) (sc_0T (refs_ok m v o1))
  have H4 := sc_TA (a0 := a0) (a1 := a1) (sc_0T (weaks_ok m v o1))
  have W3 := sc_TA (a0 := a0) (a1 := a1) (sc_0T (refs_ok m (.mk v.k 1152921504606846976 v.s v.l) ⟨o1.1, o1.2⟩))
  have W4 := sc_TA (a0 := a0) (a1 := a1) (sc_0T (weaks_ok m (.mk v.k 1152921504606846976 v.s v.l) ⟨o1.1, o1.2⟩))
  unfold numsV at W3 W4
  rw [if_neg (by rw [wrong_rightV]; decide)] at W3 W4
  have n3 := numsL_one rx (k := 3) (by decide)
  have n4 := numsL_one rx (k := 4) (by decide)
  have q3 := numsL_len (v :: v.l) 3
  have q4 := numsL_len (v :: v.l) 4
  rw [n3, List.length_cons] at q3
  rw [n4, List.length_cons] at q4
  have N3 := nums_ok (glA a0 a1 m) (numsV v 3) (by omega)
  have N4 := nums_ok (glA a0 a1 m) (numsV v 4) (by omega)
  have hrc := rowsCons v
  unfold B at N3 N4
  simp only [vcA, seval, vV]
  (with_reducible apply v_call); (· simp only [vcA, seval, vV]; with_reducible rfl); (· exact HA); (· first | rfl | (simp only [vcA, seval]; omega)); (· simp only [vcA, seval, vV]; with_reducible rfl)
  simp only [vcA, seval, vV]
  (with_reducible apply v_call); (· simp only [vcA, seval, vV]; with_reducible rfl); (· exact HX); (· first | rfl | (simp only [vcA, seval]; omega)); (· simp only [vcA, seval, vV]; with_reducible rfl)
  simp only [vcA, seval, vV, hrc]
  refine ⟨⟨by omega, by omega⟩, ?_⟩
  obtain ⟨L, hL⟩ : ∃ L, v :: v.l = L := ⟨_, rfl⟩
  have hLl : L.length = v.l.length + 1 := by rw [← hL]; rfl
  rw [hL] at n3 n4
  rw [hL, ← hLl]
  refine v_loop (σ := {i : Nat // i ≤ L.length}) (fun i => ⟨[(3, .pv (.v (.bool true))), (4, .ptr 4 0), (5, .own 3000 1 (intR (numsL (L.take i.1) 3))), (6, .own 3001 1 (intR (numsL (L.take i.1) 4))), (27, .own 24 4 (V.rows L)), (28, I (L.length : Int)), (29, I (i.1 : Int))], [(4, [I v.k, I v.n, S (str v.s), .pv (.sl 4 (V.rows v.l))])], [(24, (42, 4, 1 + v.l.length)), (3000, (3, 1, (numsL (L.take i.1) 3).length)), (3001, (3, 1, (numsL (L.take i.1) 4).length))], []⟩) (fun i => L.length - i.1) ⟨0, Nat.zero_le _⟩ ?_ ?_
  · refine ES.Lw.trans ?_ (adT_lw (k := 5) (d := 3000) (e := 3) (W := 1) (.inr (by decide)) rfl)
    refine ES.Lw.trans ?_ (adT_lw (k := 6) (d := 3001) (e := 3) (W := 1) (.inr (by decide)) rfl)
    simp only [vcA, seval, vV, ES.adT]
    apply lw_of <;> simp [leL, lk, sv, Nat.beq, I, S, ES.kill, has, drp, nilT, numsL, intR]
  rintro ⟨i, hi⟩
  have hnl3 := numsL_len (L.take i) 3
  have hnl4 := numsL_len (L.take i) 4
  rw [List.length_take] at hnl3 hnl4
  by_cases hlt : i < L.length
  · have d1 : (i : Int) < (L.length : Int) := by omega
    obtain ⟨y, ey⟩ : ∃ y, L[i]? = some y := ⟨_, List.getElem?_eq_getElem hlt⟩
    have w1 : IntKind.i64.wrap ((i : Int) + 1) = ((i + 1 : Nat) : Int) := by rw [wrap64 (by omega) (by omega)]; omega
    have hs3 := numsL_succ 3 ey
    have hs4 := numsL_succ 4 ey
    by_cases hy3 : y.k = 3
    · have hy4 : ¬ (3 : Int) = 4 := by decide
      rw [if_pos hy3] at hs3
      rw [hy3, if_neg hy4, List.append_nil] at hs4
      simp only [vcA, seval, vV, d1, ey, hy3, hy4, w1, intR_app, intR_len, hm]
      refine ⟨⟨by omega, by omega⟩, loopK_of ⟨i + 1, by omega⟩ (by show L.length - (i + 1) < L.length - i; omega) ?_⟩
      simp only [hs3, hs4, List.length_append, List.length_singleton]
      apply lw_of <;> simp [leL, lk, sv, Nat.beq, I, S, ES.kill, has, drp, nilT]
    · rw [if_neg hy3, List.append_nil] at hs3
      by_cases hy4 : y.k = 4
      · have hy3 : ¬ (4 : Int) = 3 := by decide
        rw [if_pos hy4] at hs4
        simp only [vcA, seval, vV, d1, ey, hy3, hy4, w1, intR_app, intR_len, hm]
        refine ⟨⟨by omega, by omega⟩, loopK_of ⟨i + 1, by omega⟩ (by show L.length - (i + 1) < L.length - i; omega) ?_⟩
        simp only [hs3, hs4, List.length_append, List.length_singleton]
        apply lw_of <;> simp [leL, lk, sv, Nat.beq, I, S, ES.kill, has, drp, nilT]
      · rw [if_neg hy4, List.append_nil] at hs4
        simp only [vcA, seval, vV, d1, ey, hy3, hy4, w1]
        refine loopK_of ⟨i + 1, by omega⟩ (by show L.length - (i + 1) < L.length - i; omega) ?_
        simp only [hs3, hs4]
        apply lw_of <;> simp [leL, lk, sv, Nat.beq, I, S, ES.kill, has, drp, nilT]
  · have d1 : ¬ (i : Int) < (L.length : Int) := by omega
    obtain rfl : i = L.length := by omega
    rw [List.take_length, n3, n4]
    simp only [vcA, seval, vV, d1]
    (with_reducible apply v_call); (· simp only [vcA, seval, vV]; with_reducible rfl); (· exact HE); (· first | rfl | (simp only [vcA, seval]; omega)); (· simp only [vcA, seval, vV]; with_reducible rfl)
    simp only [vcA, seval, vV]
    (with_reducible apply v_call); (· simp only [vcA, seval, vV]; with_reducible rfl); (· exact HD); (· first | rfl | (simp only [vcA, seval]; omega)); (· simp only [vcA, seval, vV]; with_reducible rfl)
    simp only [vcA, seval, vV]
    (with_reducible apply v_call); (· simp only [vcA, seval, vV]; with_reducible rfl); (· exact HF); (· first | rfl | (simp only [vcA, seval]; omega)); (· simp only [vcA, seval, vV]; with_reducible rfl)
    simp only [vcA, seval, vV]
    (with_reducible apply v_call); (· simp only [vcA, seval, vV]; with_reducible rfl); (· exact HG); (· first | rfl | (simp only [vcA, seval]; omega)); (· simp only [vcA, seval, vV]; with_reducible rfl)
    simp only [vcA, seval, vV]
    (with_reducible apply v_call); (· simp only [vcA, seval, vV]; with_reducible rfl); (· exact H3); (· first | rfl | (simp only [vcA, seval]; omega)); (· simp only [vcA, seval, vV]; with_reducible rfl)
    simp only [vcA, seval, vV]
    (with_reducible apply v_call); (· simp only [vcA, seval, vV]; with_reducible rfl); (· exact N3); (· first | rfl | (simp only [vcA, seval]; omega)); (· simp only [vcA, seval, vV]; with_reducible rfl)
    simp only [vcA, seval, vV]
    (with_reducible apply v_call); (· simp only [vcA, seval, vV]; with_reducible rfl); (· exact H4); (· first | rfl | (simp only [vcA, seval]; omega)); (· simp only [vcA, seval, vV]; with_reducible rfl)
    simp only [vcA, seval, vV]
    (with_reducible apply v_call); (· simp only [vcA, seval, vV]; with_reducible rfl); (· exact N4); (· first | rfl | (simp only [vcA, seval]; omega)); (· simp only [vcA, seval, vV]; with_reducible rfl)
    simp only [vcA, seval, vV]
    (with_reducible apply v_call); (· simp only [vcA, seval, vV]; with_reducible rfl); (· exact H3); (· first | rfl | (simp only [vcA, seval]; omega)); (· simp only [vcA, seval, vV]; with_reducible rfl)
    simp only [vcA, seval, vV]
    (with_reducible apply v_call); (· simp only [vcA, seval, vV]; with_reducible rfl); (· exact N3); (· first | rfl | (simp only [vcA, seval]; omega)); (· simp only [vcA, seval, vV]; with_reducible rfl)
    simp only [vcA, seval, vV]
    (with_reducible apply v_call); (· simp only [vcA, seval, vV]; with_reducible rfl); (· exact H4); (· first | rfl | (simp only [vcA, seval]; omega)); (· simp only [vcA, seval, vV]; with_reducible rfl)
    simp only [vcA, seval, vV]
    (with_reducible apply v_call); (· simp only [vcA, seval, vV]; with_reducible rfl); (· exact N4); (· first | rfl | (simp only [vcA, seval]; omega)); (· simp only [vcA, seval, vV]; with_reducible rfl)
    simp only [vcA, seval, vV]
    (with_reducible apply v_call); (· simp only [vcA, seval, vV]; with_reducible rfl); (· exact W3); (· first | rfl | (simp only [vcA, seval]; omega)); (· simp only [vcA, seval, vV]; with_reducible rfl)
    simp only [vcA, seval, vV, intR_len]
    (with_reducible apply v_call); (· simp only [vcA, seval, vV]; with_reducible rfl); (· exact W4); (· first | rfl | (simp only [vcA, seval]; omega)); (· simp only [vcA, seval, vV]; with_reducible rfl)
    simp only [vcA, seval, vV, intR_len]
end Go.Proofs.YthjphllpkcnehaaGreatDoor
end
