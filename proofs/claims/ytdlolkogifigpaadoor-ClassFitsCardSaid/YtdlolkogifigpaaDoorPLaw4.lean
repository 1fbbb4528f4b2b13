/- Chapter 4's examples in plain words. -/
import Derived.Test.YtdlolkogifigpaaDoorClass9
namespace Go.Proofs.YtdlolkogifigpaaDoor
open Go Go.RowKit Go.Mor
set_option maxHeartbeats 4000000

def exF : List Fld := [⟨[97], ⟨1, 0⟩, true⟩, ⟨[98], ⟨3, 0⟩, false⟩]
def exC : Cls := ⟨[110], exF⟩
def five : V := .mk 1 5 [] []
def ref3 : V := .mk 3 3 [] []
def exS : List UInt8 := encode exC
theorem ex1 : checkRes exC [five, ref3] = .tuple #[.int .i64 0, .int .i64 0] := by rfl
theorem ex2 : checkRes exC [five, V.nil] = .tuple #[.int .i64 0, .int .i64 0] := by rfl
theorem ex3 : checkRes exC [five] = .tuple #[.int .i64 1, .int .i64 42] := by rfl
theorem ex4 : checkRes exC [five, five] = .tuple #[.int .i64 1, .int .i64 42] := by rfl
theorem ex5 : encRes exC = .tuple #[.string (str exS), .int .i64 0] := by rfl
theorem ex7 : decode ([120] ++ exS ++ [121]) 1 = some (exC, 14) := by rfl
theorem ex8 : decode exS 1 = none := by rfl
theorem ex9 : exS.length = 13 := by rfl
theorem ex10 : fieldRes exF [98] = .tuple #[.int .i64 1, .bool true] := by rfl
theorem ex11 : fieldRes exF [99] = .tuple #[.int .i64 0, .bool false] := by rfl
theorem ex12 : rightClass exC = true := by rfl
theorem ex13 : rightClass ⟨[], []⟩ = false := by rfl
theorem ex14 : rightType ⟨5, 4⟩ = true := by rfl
theorem ex15 : rightType ⟨5, 0⟩ = false := by rfl
theorem ex16 : sameClass exC exC = true := by rfl
theorem ex17 : sameClass exC ⟨[], []⟩ = false := by rfl

theorem isF_ex {w : World} {b : Nat} (h : w.heap[b]? = some (.cells #[.string ⟨#[97]⟩, .int .i64 1, .int .i64 0, .bool true, .string ⟨#[98]⟩, .int .i64 3, .int .i64 0, .bool false] 53 (0, 0))) : IsF (fun _ => True) w exF (.slice (some ⟨b, 0, none⟩) 2 2) := by
  refine ⟨b, 0, 2, _, rfl, by decide, by decide, fun _ => ⟨rfl, trivial⟩, fun i f hf => ?_⟩
  match i, hf with
  | 0, hf => obtain rfl : _ = f := by simpa [exF] using hf
             exact ⟨blk_cells' h 0, blk_cells' h 1, blk_cells' h 2, blk_cells' h 3⟩
  | 1, hf => obtain rfl : _ = f := by simpa [exF] using hf
             exact ⟨blk_cells' h 4, blk_cells' h 5, blk_cells' h 6, blk_cells' h 7⟩
  | n + 2, hf => simp [exF] at hf
/-- Values without lists, that lie in a block of their own. -/
theorem isL_1 {w : World} {b : Nat} (x : V) (hx : x.l = []) (h : w.heap[b]? = some (.cells #[.int .i64 x.k, .int .i64 x.n, .string (str x.s), .slice none 0 0] 31 (0, 0))) : IsL (fun _ => True) w [x] (.slice (some ⟨b, 0, none⟩) 1 1) := by
  refine .mk [x] b 0 1 _ (fun _ => .slice none 0 0) (by simp) (by decide) (fun _ => ⟨rfl, trivial⟩) (fun i y hy => ?_) (fun i y hy => ?_)
  · match i, hy with
    | 0, hy => obtain rfl : x = y := by simpa using hy
               exact ⟨blk_cells' h 0, blk_cells' h 1, blk_cells' h 2, blk_cells' h 3⟩
    | n + 1, hy => simp at hy
  · match i, hy with
    | 0, hy => obtain rfl : x = y := by simpa using hy
               rw [hx]; exact IsL.none_
    | n + 1, hy => simp at hy
theorem isL_2 {w : World} {b : Nat} (x y : V) (hx : x.l = []) (hy : y.l = []) (h : w.heap[b]? = some (.cells #[.int .i64 x.k, .int .i64 x.n, .string (str x.s), .slice none 0 0, .int .i64 y.k, .int .i64 y.n, .string (str y.s), .slice none 0 0] 31 (0, 0))) : IsL (fun _ => True) w [x, y] (.slice (some ⟨b, 0, none⟩) 2 2) := by
  refine .mk [x, y] b 0 2 _ (fun _ => .slice none 0 0) (by simp) (by decide) (fun _ => ⟨rfl, trivial⟩) (fun i z hz => ?_) (fun i z hz => ?_)
  · match i, hz with
    | 0, hz => obtain rfl : x = z := by simpa using hz
               exact ⟨blk_cells' h 0, blk_cells' h 1, blk_cells' h 2, blk_cells' h 3⟩
    | 1, hz => obtain rfl : y = z := by simpa using hz
               exact ⟨blk_cells' h 4, blk_cells' h 5, blk_cells' h 6, blk_cells' h 7⟩
    | n + 2, hz => simp at hz
  · match i, hz with
    | 0, hz => obtain rfl : x = z := by simpa using hz
               rw [hx]; exact IsL.none_
    | 1, hz => obtain rfl : y = z := by simpa using hz
               rw [hy]; exact IsL.none_
    | n + 2, hz => simp at hz
theorem exF_texts : FTextsOk exF := by
  intro f hf
  simp only [exF, List.mem_cons, List.not_mem_nil, or_false] at hf
  rcases hf with rfl | rfl <;> decide
theorem alloc4x (w : World) (o0 o1 o2 o3 : Obj) :
    ((((w.alloc o0).alloc o1).alloc o2).alloc o3).heap[w.heap.size]? = some o0 ∧ ((((w.alloc o0).alloc o1).alloc o2).alloc o3).heap[w.heap.size + 1]? = some o1
    ∧ ((((w.alloc o0).alloc o1).alloc o2).alloc o3).heap[w.heap.size + 1 + 1]? = some o2 ∧ ((((w.alloc o0).alloc o1).alloc o2).alloc o3).heap[w.heap.size + 1 + 1 + 1]? = some o3
    ∧ Below w.heap.size w ((((w.alloc o0).alloc o1).alloc o2).alloc o3) ∧ ((((w.alloc o0).alloc o1).alloc o2).alloc o3).heap.size = w.heap.size + 4 := by
  refine ⟨?_, ?_, ?_, ?_, (((((Below.refl _ _).alloc (Nat.le_refl _) _).alloc (by simp) _).alloc (by simp <;> omega) _).alloc (by simp <;> omega) _), by simp⟩
  · rw [Below.heap_alloc _ _ _ (by simp <;> omega), Below.heap_alloc _ _ _ (by simp <;> omega), Below.heap_alloc _ _ _ (by simp)]
    exact World.alloc_heap_new w _
  · rw [Below.heap_alloc _ _ _ (by simp <;> omega), Below.heap_alloc _ _ _ (by simp)]
    have := World.alloc_heap_new (w.alloc o0) o1
    rwa [World.size_alloc] at this
  · rw [Below.heap_alloc _ _ _ (by simp)]
    have := World.alloc_heap_new ((w.alloc o0).alloc o1) o2
    rwa [World.size_alloc, World.size_alloc] at this
  · have := World.alloc_heap_new (((w.alloc o0).alloc o1).alloc o2) o3
    rwa [World.size_alloc, World.size_alloc, World.size_alloc] at this
end Go.Proofs.YtdlolkogifigpaaDoor
