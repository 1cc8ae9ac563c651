/- Functions of the seat and plain laws about them: GF45. -/
import Derived.Test.YtklapbgajghhcaaGBase
import Derived.Test.YtklapbgajghhcaaZW3
section
namespace Go.Proofs.Ytklapbgajghhcaa.G
open Go.RowKit Go.Proofs.YtklapbgajghhcaaW.PrintWords Go.Proofs.YtklapbgajghhcaaW.PrintLast Go.Proofs.YtklapbgajghhcaaW.PrintMore
attribute [local go_sem] max2_int min2_int max_two min_two max_three min_three max_four min_four
set_option linter.unusedVariables false
set_option linter.unusedSimpArgs false
mutual
def slices_pdqsortOrdered_int.l0 : Nat → List Int → Int → Int → Int → Bool → Bool → Option (List Int)
  | 0, _, _, _, _, _, _ => none
  | k + 1, x0, x1, x2, x3, x8, x9 => if (wrap64 (x2 - x1)) ≤ 12 then ((slices_insertionSortOrdered_int.f k x0 x1 x2).bind fun t601 => (some t601)) else (if x3 = 0 then ((slices_heapSortOrdered_int.f k x0 x1 x2).bind fun t602 => (some t602)) else (if x8 = true then (slices_pdqsortOrdered_int.j1 k x0 x1 x2 x3 x8 x9 (wrap64 (x2 - x1))) else ((slices_breakPatternsOrdered_int.f k x0 x1 x2).bind fun _ => (slices_pdqsortOrdered_int.j1 k x0 x1 x2 (wrap64 (x3 - 1)) x8 x9 (wrap64 (x2 - x1))))))
def slices_pdqsortOrdered_int.j1 : Nat → List Int → Int → Int → Int → Bool → Bool → Int → Option (List Int)
  | 0, _, _, _, _, _, _, _ => none
  | k + 1, x0, x1, x2, x3, x8, x9, x10 => (slices_choosePivotOrdered_int.f k x0 x1 x2).bind fun bt603 => (if bt603.2 = 2 then ((slices_reverseRangeOrdered_int.f k x0 x1 x2).bind fun t605 => (slices_pdqsortOrdered_int.j2 k t605 x1 x2 x3 x8 x9 x10 (wrap64 ((wrap64 (x2 - 1)) - (wrap64 (bt603.1 - x1)))) 1)) else (slices_pdqsortOrdered_int.j2 k x0 x1 x2 x3 x8 x9 x10 bt603.1 bt603.2))
def slices_pdqsortOrdered_int.j2 : Nat → List Int → Int → Int → Int → Bool → Bool → Int → Int → Int → Option (List Int)
  | 0, _, _, _, _, _, _, _, _, _ => none
  | k + 1, x0, x1, x2, x3, x8, x9, x10, x11, x12 => if x8 = true then (if x9 = true then (slices_pdqsortOrdered_int.j3 k x0 x1 x2 x3 x8 x9 x10 x11 (x12 == 1)) else (slices_pdqsortOrdered_int.j3 k x0 x1 x2 x3 x8 x9 x10 x11 false)) else (slices_pdqsortOrdered_int.j3 k x0 x1 x2 x3 x8 x9 x10 x11 false)
def slices_pdqsortOrdered_int.j3 : Nat → List Int → Int → Int → Int → Bool → Bool → Int → Int → Bool → Option (List Int)
  | 0, _, _, _, _, _, _, _, _, _ => none
  | k + 1, x0, x1, x2, x3, x8, x9, x10, x11, x68 => if x68 = true then ((slices_partialInsertionSortOrdered_int.f k x0 x1 x2).bind fun bt606 => (if bt606.1 = true then (some bt606.2) else (slices_pdqsortOrdered_int.j4 k bt606.2 x1 x2 x3 x8 x9 x10 x11))) else (slices_pdqsortOrdered_int.j4 k x0 x1 x2 x3 x8 x9 x10 x11)
def slices_pdqsortOrdered_int.j4 : Nat → List Int → Int → Int → Int → Bool → Bool → Int → Int → Option (List Int)
  | 0, _, _, _, _, _, _, _, _ => none
  | k + 1, x0, x1, x2, x3, x8, x9, x10, x11 => if x1 > 0 then (if 0 ≤ (wrap64 (x1 - 1)) then (if (wrap64 (x1 - 1)) < (x0.length : Int) then (if 0 ≤ x11 then (if x11 < (x0.length : Int) then ((cmp_Less_int.f (rd x0 (wrap64 (x1 - 1))) (rd x0 x11)).bind fun t610 => (slices_pdqsortOrdered_int.j5 k x0 x1 x2 x3 x8 x9 x10 x11 (!t610))) else (none)) else (none)) else (none)) else (none)) else (slices_pdqsortOrdered_int.j5 k x0 x1 x2 x3 x8 x9 x10 x11 false)
def slices_pdqsortOrdered_int.j5 : Nat → List Int → Int → Int → Int → Bool → Bool → Int → Int → Bool → Option (List Int)
  | 0, _, _, _, _, _, _, _, _, _ => none
  | k + 1, x0, x1, x2, x3, x8, x9, x10, x11, x87 => if x87 = true then ((slices_partitionEqualOrdered_int.f k x0 x1 x2 x11).bind fun bt611 => (slices_pdqsortOrdered_int.l0 k bt611.2 bt611.1 x2 x3 x8 x9)) else ((slices_partitionOrdered_int.f k x0 x1 x2 x11).bind fun bt613 => (if (wrap64 (bt613.1 - x1)) < (wrap64 (x2 - bt613.1)) then ((slices_pdqsortOrdered_int.f k bt613.2.2 x1 bt613.1 x3).bind fun t616 => (slices_pdqsortOrdered_int.l0 k t616 (wrap64 (bt613.1 + 1)) x2 x3 (decide ((wrap64 (bt613.1 - x1)) ≥ (wrap64 (Int.tdiv x10 8)))) bt613.2.1)) else ((slices_pdqsortOrdered_int.f k bt613.2.2 (wrap64 (bt613.1 + 1)) x2 x3).bind fun t617 => (slices_pdqsortOrdered_int.l0 k t617 x1 bt613.1 x3 (decide ((wrap64 (x2 - bt613.1)) ≥ (wrap64 (Int.tdiv x10 8)))) bt613.2.1))))
def slices_pdqsortOrdered_int.f : Nat → List Int → Int → Int → Int → Option (List Int)
  | 0, _, _, _, _ => none
  | k + 1, l0, a1, a2, a3 => slices_pdqsortOrdered_int.l0 k l0 a1 a2 a3 true true
end
theorem slices_pdqsortOrdered_int.mono_l : ∀ k, (∀ y0 y1 y2 y3, LeO (slices_pdqsortOrdered_int.f k y0 y1 y2 y3) (slices_pdqsortOrdered_int.f (k + 1) y0 y1 y2 y3)) ∧ (∀ y0 y1 y2 y3 y4 y5, LeO (slices_pdqsortOrdered_int.l0 k y0 y1 y2 y3 y4 y5) (slices_pdqsortOrdered_int.l0 (k + 1) y0 y1 y2 y3 y4 y5)) ∧ (∀ y0 y1 y2 y3 y4 y5 y6, LeO (slices_pdqsortOrdered_int.j1 k y0 y1 y2 y3 y4 y5 y6) (slices_pdqsortOrdered_int.j1 (k + 1) y0 y1 y2 y3 y4 y5 y6)) ∧ (∀ y0 y1 y2 y3 y4 y5 y6 y7 y8, LeO (slices_pdqsortOrdered_int.j2 k y0 y1 y2 y3 y4 y5 y6 y7 y8) (slices_pdqsortOrdered_int.j2 (k + 1) y0 y1 y2 y3 y4 y5 y6 y7 y8)) ∧ (∀ y0 y1 y2 y3 y4 y5 y6 y7 y8, LeO (slices_pdqsortOrdered_int.j3 k y0 y1 y2 y3 y4 y5 y6 y7 y8) (slices_pdqsortOrdered_int.j3 (k + 1) y0 y1 y2 y3 y4 y5 y6 y7 y8)) ∧ (∀ y0 y1 y2 y3 y4 y5 y6 y7, LeO (slices_pdqsortOrdered_int.j4 k y0 y1 y2 y3 y4 y5 y6 y7) (slices_pdqsortOrdered_int.j4 (k + 1) y0 y1 y2 y3 y4 y5 y6 y7)) ∧ (∀ y0 y1 y2 y3 y4 y5 y6 y7 y8, LeO (slices_pdqsortOrdered_int.j5 k y0 y1 y2 y3 y4 y5 y6 y7 y8) (slices_pdqsortOrdered_int.j5 (k + 1) y0 y1 y2 y3 y4 y5 y6 y7 y8))
  | 0 => ⟨fun _ _ _ _ r h => by simp [slices_pdqsortOrdered_int.f] at h, fun _ _ _ _ _ _ r h => by simp [slices_pdqsortOrdered_int.l0] at h, fun _ _ _ _ _ _ _ r h => by simp [slices_pdqsortOrdered_int.j1] at h, fun _ _ _ _ _ _ _ _ _ r h => by simp [slices_pdqsortOrdered_int.j2] at h, fun _ _ _ _ _ _ _ _ _ r h => by simp [slices_pdqsortOrdered_int.j3] at h, fun _ _ _ _ _ _ _ _ r h => by simp [slices_pdqsortOrdered_int.j4] at h, fun _ _ _ _ _ _ _ _ _ r h => by simp [slices_pdqsortOrdered_int.j5] at h⟩
  | k + 1 => by
    obtain ⟨ih0, ih1, ih2, ih3, ih4, ih5, ih6⟩ := slices_pdqsortOrdered_int.mono_l k
    refine ⟨?_, ?_, ?_, ?_, ?_, ?_, ?_⟩
    · intro y0 y1 y2 y3
      unfold slices_pdqsortOrdered_int.f
      repeat' first
      | (with_reducible exact ih0 _ _ _ _)
      | (with_reducible exact ih1 _ _ _ _ _ _)
      | (with_reducible exact ih2 _ _ _ _ _ _ _)
      | (with_reducible exact ih3 _ _ _ _ _ _ _ _ _)
      | (with_reducible exact ih4 _ _ _ _ _ _ _ _ _)
      | (with_reducible exact ih5 _ _ _ _ _ _ _ _)
      | (with_reducible exact ih6 _ _ _ _ _ _ _ _ _)
      | (with_reducible exact slices_breakPatternsOrdered_int.mono _ _ _ _)
      | (with_reducible exact slices_choosePivotOrdered_int.mono _ _ _ _)
      | (with_reducible exact slices_heapSortOrdered_int.mono _ _ _ _)
      | (with_reducible exact slices_insertionSortOrdered_int.mono _ _ _ _)
      | (with_reducible exact slices_partialInsertionSortOrdered_int.mono _ _ _ _)
      | (with_reducible exact slices_partitionEqualOrdered_int.mono _ _ _ _ _)
      | (with_reducible exact slices_partitionOrdered_int.mono _ _ _ _ _)
      | (with_reducible exact slices_reverseRangeOrdered_int.mono _ _ _ _)
      | (with_reducible exact LeO.refl _)
      | (with_reducible exact LeO.none _)
      | (with_reducible refine LeO.ite ?_ ?_)
      | (with_reducible refine LeO.bind ?_ (fun _ => ?_))
      | exact ih0 _ _ _ _
      | exact ih1 _ _ _ _ _ _
      | exact ih2 _ _ _ _ _ _ _
      | exact ih3 _ _ _ _ _ _ _ _ _
      | exact ih4 _ _ _ _ _ _ _ _ _
      | exact ih5 _ _ _ _ _ _ _ _
      | exact ih6 _ _ _ _ _ _ _ _ _
      | exact slices_breakPatternsOrdered_int.mono _ _ _ _
      | exact slices_choosePivotOrdered_int.mono _ _ _ _
      | exact slices_heapSortOrdered_int.mono _ _ _ _
      | exact slices_insertionSortOrdered_int.mono _ _ _ _
      | exact slices_partialInsertionSortOrdered_int.mono _ _ _ _
      | exact slices_partitionEqualOrdered_int.mono _ _ _ _ _
      | exact slices_partitionOrdered_int.mono _ _ _ _ _
      | exact slices_reverseRangeOrdered_int.mono _ _ _ _
      | exact LeO.none _
      | refine LeO.ite ?_ ?_
      | refine LeO.bind ?_ (fun _ => ?_)
    · intro y0 y1 y2 y3 y4 y5
      unfold slices_pdqsortOrdered_int.l0
      repeat' first
      | (with_reducible exact ih0 _ _ _ _)
      | (with_reducible exact ih1 _ _ _ _ _ _)
      | (with_reducible exact ih2 _ _ _ _ _ _ _)
      | (with_reducible exact ih3 _ _ _ _ _ _ _ _ _)
      | (with_reducible exact ih4 _ _ _ _ _ _ _ _ _)
      | (with_reducible exact ih5 _ _ _ _ _ _ _ _)
      | (with_reducible exact ih6 _ _ _ _ _ _ _ _ _)
      | (with_reducible exact slices_breakPatternsOrdered_int.mono _ _ _ _)
      | (with_reducible exact slices_choosePivotOrdered_int.mono _ _ _ _)
      | (with_reducible exact slices_heapSortOrdered_int.mono _ _ _ _)
      | (with_reducible exact slices_insertionSortOrdered_int.mono _ _ _ _)
      | (with_reducible exact slices_partialInsertionSortOrdered_int.mono _ _ _ _)
      | (with_reducible exact slices_partitionEqualOrdered_int.mono _ _ _ _ _)
      | (with_reducible exact slices_partitionOrdered_int.mono _ _ _ _ _)
      | (with_reducible exact slices_reverseRangeOrdered_int.mono _ _ _ _)
      | (with_reducible exact LeO.refl _)
      | (with_reducible exact LeO.none _)
      | (with_reducible refine LeO.ite ?_ ?_)
      | (with_reducible refine LeO.bind ?_ (fun _ => ?_))
      | exact ih0 _ _ _ _
      | exact ih1 _ _ _ _ _ _
      | exact ih2 _ _ _ _ _ _ _
      | exact ih3 _ _ _ _ _ _ _ _ _
      | exact ih4 _ _ _ _ _ _ _ _ _
      | exact ih5 _ _ _ _ _ _ _ _
      | exact ih6 _ _ _ _ _ _ _ _ _
      | exact slices_breakPatternsOrdered_int.mono _ _ _ _
      | exact slices_choosePivotOrdered_int.mono _ _ _ _
      | exact slices_heapSortOrdered_int.mono _ _ _ _
      | exact slices_insertionSortOrdered_int.mono _ _ _ _
      | exact slices_partialInsertionSortOrdered_int.mono _ _ _ _
      | exact slices_partitionEqualOrdered_int.mono _ _ _ _ _
      | exact slices_partitionOrdered_int.mono _ _ _ _ _
      | exact slices_reverseRangeOrdered_int.mono _ _ _ _
      | exact LeO.none _
      | refine LeO.ite ?_ ?_
      | refine LeO.bind ?_ (fun _ => ?_)
    · intro y0 y1 y2 y3 y4 y5 y6
      unfold slices_pdqsortOrdered_int.j1
      repeat' first
      | (with_reducible exact ih0 _ _ _ _)
      | (with_reducible exact ih1 _ _ _ _ _ _)
      | (with_reducible exact ih2 _ _ _ _ _ _ _)
      | (with_reducible exact ih3 _ _ _ _ _ _ _ _ _)
      | (with_reducible exact ih4 _ _ _ _ _ _ _ _ _)
      | (with_reducible exact ih5 _ _ _ _ _ _ _ _)
      | (with_reducible exact ih6 _ _ _ _ _ _ _ _ _)
      | (with_reducible exact slices_breakPatternsOrdered_int.mono _ _ _ _)
      | (with_reducible exact slices_choosePivotOrdered_int.mono _ _ _ _)
      | (with_reducible exact slices_heapSortOrdered_int.mono _ _ _ _)
      | (with_reducible exact slices_insertionSortOrdered_int.mono _ _ _ _)
      | (with_reducible exact slices_partialInsertionSortOrdered_int.mono _ _ _ _)
      | (with_reducible exact slices_partitionEqualOrdered_int.mono _ _ _ _ _)
      | (with_reducible exact slices_partitionOrdered_int.mono _ _ _ _ _)
      | (with_reducible exact slices_reverseRangeOrdered_int.mono _ _ _ _)
      | (with_reducible exact LeO.refl _)
      | (with_reducible exact LeO.none _)
      | (with_reducible refine LeO.ite ?_ ?_)
      | (with_reducible refine LeO.bind ?_ (fun _ => ?_))
      | exact ih0 _ _ _ _
      | exact ih1 _ _ _ _ _ _
      | exact ih2 _ _ _ _ _ _ _
      | exact ih3 _ _ _ _ _ _ _ _ _
      | exact ih4 _ _ _ _ _ _ _ _ _
      | exact ih5 _ _ _ _ _ _ _ _
      | exact ih6 _ _ _ _ _ _ _ _ _
      | exact slices_breakPatternsOrdered_int.mono _ _ _ _
      | exact slices_choosePivotOrdered_int.mono _ _ _ _
      | exact slices_heapSortOrdered_int.mono _ _ _ _
      | exact slices_insertionSortOrdered_int.mono _ _ _ _
      | exact slices_partialInsertionSortOrdered_int.mono _ _ _ _
      | exact slices_partitionEqualOrdered_int.mono _ _ _ _ _
      | exact slices_partitionOrdered_int.mono _ _ _ _ _
      | exact slices_reverseRangeOrdered_int.mono _ _ _ _
      | exact LeO.none _
      | refine LeO.ite ?_ ?_
      | refine LeO.bind ?_ (fun _ => ?_)
    · intro y0 y1 y2 y3 y4 y5 y6 y7 y8
      unfold slices_pdqsortOrdered_int.j2
      repeat' first
      | (with_reducible exact ih0 _ _ _ _)
      | (with_reducible exact ih1 _ _ _ _ _ _)
      | (with_reducible exact ih2 _ _ _ _ _ _ _)
      | (with_reducible exact ih3 _ _ _ _ _ _ _ _ _)
      | (with_reducible exact ih4 _ _ _ _ _ _ _ _ _)
      | (with_reducible exact ih5 _ _ _ _ _ _ _ _)
      | (with_reducible exact ih6 _ _ _ _ _ _ _ _ _)
      | (with_reducible exact slices_breakPatternsOrdered_int.mono _ _ _ _)
      | (with_reducible exact slices_choosePivotOrdered_int.mono _ _ _ _)
      | (with_reducible exact slices_heapSortOrdered_int.mono _ _ _ _)
      | (with_reducible exact slices_insertionSortOrdered_int.mono _ _ _ _)
      | (with_reducible exact slices_partialInsertionSortOrdered_int.mono _ _ _ _)
      | (with_reducible exact slices_partitionEqualOrdered_int.mono _ _ _ _ _)
      | (with_reducible exact slices_partitionOrdered_int.mono _ _ _ _ _)
      | (with_reducible exact slices_reverseRangeOrdered_int.mono _ _ _ _)
      | (with_reducible exact LeO.refl _)
      | (with_reducible exact LeO.none _)
      | (with_reducible refine LeO.ite ?_ ?_)
      | (with_reducible refine LeO.bind ?_ (fun _ => ?_))
      | exact ih0 _ _ _ _
      | exact ih1 _ _ _ _ _ _
      | exact ih2 _ _ _ _ _ _ _
      | exact ih3 _ _ _ _ _ _ _ _ _
      | exact ih4 _ _ _ _ _ _ _ _ _
      | exact ih5 _ _ _ _ _ _ _ _
      | exact ih6 _ _ _ _ _ _ _ _ _
      | exact slices_breakPatternsOrdered_int.mono _ _ _ _
      | exact slices_choosePivotOrdered_int.mono _ _ _ _
      | exact slices_heapSortOrdered_int.mono _ _ _ _
      | exact slices_insertionSortOrdered_int.mono _ _ _ _
      | exact slices_partialInsertionSortOrdered_int.mono _ _ _ _
      | exact slices_partitionEqualOrdered_int.mono _ _ _ _ _
      | exact slices_partitionOrdered_int.mono _ _ _ _ _
      | exact slices_reverseRangeOrdered_int.mono _ _ _ _
      | exact LeO.none _
      | refine LeO.ite ?_ ?_
      | refine LeO.bind ?_ (fun _ => ?_)
    · intro y0 y1 y2 y3 y4 y5 y6 y7 y8
      unfold slices_pdqsortOrdered_int.j3
      repeat' first
      | (with_reducible exact ih0 _ _ _ _)
      | (with_reducible exact ih1 _ _ _ _ _ _)
      | (with_reducible exact ih2 _ _ _ _ _ _ _)
      | (with_reducible exact ih3 _ _ _ _ _ _ _ _ _)
      | (with_reducible exact ih4 _ _ _ _ _ _ _ _ _)
      | (with_reducible exact ih5 _ _ _ _ _ _ _ _)
      | (with_reducible exact ih6 _ _ _ _ _ _ _ _ _)
      | (with_reducible exact slices_breakPatternsOrdered_int.mono _ _ _ _)
      | (with_reducible exact slices_choosePivotOrdered_int.mono _ _ _ _)
      | (with_reducible exact slices_heapSortOrdered_int.mono _ _ _ _)
      | (with_reducible exact slices_insertionSortOrdered_int.mono _ _ _ _)
      | (with_reducible exact slices_partialInsertionSortOrdered_int.mono _ _ _ _)
      | (with_reducible exact slices_partitionEqualOrdered_int.mono _ _ _ _ _)
      | (with_reducible exact slices_partitionOrdered_int.mono _ _ _ _ _)
      | (with_reducible exact slices_reverseRangeOrdered_int.mono _ _ _ _)
      | (with_reducible exact LeO.refl _)
      | (with_reducible exact LeO.none _)
      | (with_reducible refine LeO.ite ?_ ?_)
      | (with_reducible refine LeO.bind ?_ (fun _ => ?_))
      | exact ih0 _ _ _ _
      | exact ih1 _ _ _ _ _ _
      | exact ih2 _ _ _ _ _ _ _
      | exact ih3 _ _ _ _ _ _ _ _ _
      | exact ih4 _ _ _ _ _ _ _ _ _
      | exact ih5 _ _ _ _ _ _ _ _
      | exact ih6 _ _ _ _ _ _ _ _ _
      | exact slices_breakPatternsOrdered_int.mono _ _ _ _
      | exact slices_choosePivotOrdered_int.mono _ _ _ _
      | exact slices_heapSortOrdered_int.mono _ _ _ _
      | exact slices_insertionSortOrdered_int.mono _ _ _ _
      | exact slices_partialInsertionSortOrdered_int.mono _ _ _ _
      | exact slices_partitionEqualOrdered_int.mono _ _ _ _ _
      | exact slices_partitionOrdered_int.mono _ _ _ _ _
      | exact slices_reverseRangeOrdered_int.mono _ _ _ _
      | exact LeO.none _
      | refine LeO.ite ?_ ?_
      | refine LeO.bind ?_ (fun _ => ?_)
    · intro y0 y1 y2 y3 y4 y5 y6 y7
      unfold slices_pdqsortOrdered_int.j4
      repeat' first
      | (with_reducible exact ih0 _ _ _ _)
      | (with_reducible exact ih1 _ _ _ _ _ _)
      | (with_reducible exact ih2 _ _ _ _ _ _ _)
      | (with_reducible exact ih3 _ _ _ _ _ _ _ _ _)
      | (with_reducible exact ih4 _ _ _ _ _ _ _ _ _)
      | (with_reducible exact ih5 _ _ _ _ _ _ _ _)
      | (with_reducible exact ih6 _ _ _ _ _ _ _ _ _)
      | (with_reducible exact slices_breakPatternsOrdered_int.mono _ _ _ _)
      | (with_reducible exact slices_choosePivotOrdered_int.mono _ _ _ _)
      | (with_reducible exact slices_heapSortOrdered_int.mono _ _ _ _)
      | (with_reducible exact slices_insertionSortOrdered_int.mono _ _ _ _)
      | (with_reducible exact slices_partialInsertionSortOrdered_int.mono _ _ _ _)
      | (with_reducible exact slices_partitionEqualOrdered_int.mono _ _ _ _ _)
      | (with_reducible exact slices_partitionOrdered_int.mono _ _ _ _ _)
      | (with_reducible exact slices_reverseRangeOrdered_int.mono _ _ _ _)
      | (with_reducible exact LeO.refl _)
      | (with_reducible exact LeO.none _)
      | (with_reducible refine LeO.ite ?_ ?_)
      | (with_reducible refine LeO.bind ?_ (fun _ => ?_))
      | exact ih0 _ _ _ _
      | exact ih1 _ _ _ _ _ _
      | exact ih2 _ _ _ _ _ _ _
      | exact ih3 _ _ _ _ _ _ _ _ _
      | exact ih4 _ _ _ _ _ _ _ _ _
      | exact ih5 _ _ _ _ _ _ _ _
      | exact ih6 _ _ _ _ _ _ _ _ _
      | exact slices_breakPatternsOrdered_int.mono _ _ _ _
      | exact slices_choosePivotOrdered_int.mono _ _ _ _
      | exact slices_heapSortOrdered_int.mono _ _ _ _
      | exact slices_insertionSortOrdered_int.mono _ _ _ _
      | exact slices_partialInsertionSortOrdered_int.mono _ _ _ _
      | exact slices_partitionEqualOrdered_int.mono _ _ _ _ _
      | exact slices_partitionOrdered_int.mono _ _ _ _ _
      | exact slices_reverseRangeOrdered_int.mono _ _ _ _
      | exact LeO.none _
      | refine LeO.ite ?_ ?_
      | refine LeO.bind ?_ (fun _ => ?_)
    · intro y0 y1 y2 y3 y4 y5 y6 y7 y8
      unfold slices_pdqsortOrdered_int.j5
      repeat' first
      | (with_reducible exact ih0 _ _ _ _)
      | (with_reducible exact ih1 _ _ _ _ _ _)
      | (with_reducible exact ih2 _ _ _ _ _ _ _)
      | (with_reducible exact ih3 _ _ _ _ _ _ _ _ _)
      | (with_reducible exact ih4 _ _ _ _ _ _ _ _ _)
      | (with_reducible exact ih5 _ _ _ _ _ _ _ _)
      | (with_reducible exact ih6 _ _ _ _ _ _ _ _ _)
      | (with_reducible exact slices_breakPatternsOrdered_int.mono _ _ _ _)
      | (with_reducible exact slices_choosePivotOrdered_int.mono _ _ _ _)
      | (with_reducible exact slices_heapSortOrdered_int.mono _ _ _ _)
      | (with_reducible exact slices_insertionSortOrdered_int.mono _ _ _ _)
      | (with_reducible exact slices_partialInsertionSortOrdered_int.mono _ _ _ _)
      | (with_reducible exact slices_partitionEqualOrdered_int.mono _ _ _ _ _)
      | (with_reducible exact slices_partitionOrdered_int.mono _ _ _ _ _)
      | (with_reducible exact slices_reverseRangeOrdered_int.mono _ _ _ _)
      | (with_reducible exact LeO.refl _)
      | (with_reducible exact LeO.none _)
      | (with_reducible refine LeO.ite ?_ ?_)
      | (with_reducible refine LeO.bind ?_ (fun _ => ?_))
      | exact ih0 _ _ _ _
      | exact ih1 _ _ _ _ _ _
      | exact ih2 _ _ _ _ _ _ _
      | exact ih3 _ _ _ _ _ _ _ _ _
      | exact ih4 _ _ _ _ _ _ _ _ _
      | exact ih5 _ _ _ _ _ _ _ _
      | exact ih6 _ _ _ _ _ _ _ _ _
      | exact slices_breakPatternsOrdered_int.mono _ _ _ _
      | exact slices_choosePivotOrdered_int.mono _ _ _ _
      | exact slices_heapSortOrdered_int.mono _ _ _ _
      | exact slices_insertionSortOrdered_int.mono _ _ _ _
      | exact slices_partialInsertionSortOrdered_int.mono _ _ _ _
      | exact slices_partitionEqualOrdered_int.mono _ _ _ _ _
      | exact slices_partitionOrdered_int.mono _ _ _ _ _
      | exact slices_reverseRangeOrdered_int.mono _ _ _ _
      | exact LeO.none _
      | refine LeO.ite ?_ ?_
      | refine LeO.bind ?_ (fun _ => ?_)
theorem slices_pdqsortOrdered_int.mono : ∀ a0 a1 a2 a3 k, LeO (slices_pdqsortOrdered_int.f k a0 a1 a2 a3) (slices_pdqsortOrdered_int.f (k + 1) a0 a1 a2 a3) := by
  intro a0 a1 a2 a3 k
  obtain ⟨ih0, ih1, ih2, ih3, ih4, ih5, ih6⟩ := slices_pdqsortOrdered_int.mono_l k
  exact ih0 a0 a1 a2 a3
set_option maxHeartbeats 8000000 in
set_option maxRecDepth 100000 in
theorem slices_pdqsortOrdered_int.calls (k : Nat) : ∀ (P0_ : Nat → Prop) (u9000_ : Value) (l0 : List Int) (a1 : Int) (a2 : Int) (a3 : Int) (r : List Int) (w0 w : World) (hB : Below w0.heap.size w0 w) (ho0 : Kd.R (Kd.int .i64) 3 w w0.heap.size P0_ u9000_ l0) (h : slices_pdqsortOrdered_int.f k l0 a1 a2 a3 = some r),
    Calls Try.prog 45 #[u9000_, .int .i64 a1, .int .i64 a2, .int .i64 a3] w fun e w' => e = .returned (.tuple #[]) ∧ Kd.R (Kd.int .i64) 3 w' w0.heap.size (fun k_ => (P0_ k_ ∨ w.heap.size ≤ k_)) u9000_ r ∧ Below w0.heap.size w0 w' ∧ Kept w w' (fun k_ => P0_ k_) := by
  induction k using Nat.strongRecOn with
  | _ k ih =>
  intro P0_ u9000_ l0 a1 a2 a3 r w0 w hB ho0 h
  cases k with
  | zero => exact absurd h (by simp [slices_pdqsortOrdered_int.f])
  | succ k =>
  simp only [slices_pdqsortOrdered_int.f] at h
  have HO0 := Aside0.mk (show Kd.R (Kd.int .i64) 3 w w0.heap.size (fun k_ => (P0_ k_ ∨ w.heap.size ≤ k_)) u9000_ l0 from Kd.R_mono ho0 (fun k_ hk => (.inl hk)))
  have HK := Aside0.mk (Kept.refl w (fun k_ => P0_ k_))
  have HW0 := Aside0.mk hB.size
  have HB := Aside0.mk hB
  clear hB
  have H : (slices_pdqsortOrdered_int.l0 k l0 a1 a2 a3 true true) = some r := h
  clear h
  have H' := Aside0.mk H
  clear H
  go_enter Try.func45, Try.ntmps45
  go_wp2
  repeat (go_quiet (fail); try go_wp2)
  go_loopg [1, 2, 3, 8, 9] k (fun kq v1 v2 v3 v8 v9 w' => ∃ (x0_1 : List Int) (x1_1 : Int) (x2_1 : Int) (x3_1 : Int) (x8_1 : Bool) (x9_1 : Bool), v1 = .int .i64 x1_1 ∧ v2 = .int .i64 x2_1 ∧ v3 = .int .i64 x3_1 ∧ v8 = .bool x8_1 ∧ v9 = .bool x9_1 ∧ Aside0 (slices_pdqsortOrdered_int.l0 kq x0_1 x1_1 x2_1 x3_1 x8_1 x9_1 = some r) ∧ Aside0 (kq ≤ k) ∧ Aside0 (Kd.R (Kd.int .i64) 3 w' w0.heap.size (fun k_ => (P0_ k_ ∨ w.heap.size ≤ k_)) u9000_ x0_1) ∧ Aside0 (Kept w w' (fun k_ => P0_ k_)) ∧ Aside0 (Below w0.heap.size w0 w'))
  case atStart => exact ⟨(l0), (a1), (a2), (a3), (true), (true), (by first | rfl | (simp; done) | (simp [*]; done)), (by first | rfl | (simp; done) | (simp [*]; done)), (by first | rfl | (simp; done) | (simp [*]; done)), (by first | rfl | (simp; done) | (simp [*]; done)), (by first | rfl | (simp; done) | (simp [*]; done)), H', ⟨Nat.le_refl _⟩, ⟨by (with_reducible repeat (first | apply Kd.R_alloc | apply Kd.R_drewN | apply Kd.R_drew)); exact HO0.out⟩, ⟨by repeat (first | (with_reducible first | exact HK.out | apply Kept.alloc | apply Kept.drewN | apply Kept.drew) | exact HK.out)⟩, ⟨by repeat (first | (with_reducible first | exact HB.out | apply below_alloc | apply pw_below_drewN | apply below_drew1) | exact HB.out)⟩⟩
  case round =>
    clear H'
    try clear p2
    try clear c4
    obtain ⟨x0_1, x1_1, x2_1, x3_1, x8_1, x9_1, rfl, rfl, rfl, rfl, rfl, HA, HK1, HO_0, HK, HB⟩ := hrel
    cases gk with
    | zero => exact absurd HA.out (by simp [slices_pdqsortOrdered_int.l0])
    | succ k1 =>
      have H := HA.out
      clear HA
      simp only [slices_pdqsortOrdered_int.l0] at H
      by_cases c5 : (wrap64 (x2_1 - x1_1)) ≤ 12
      · rw [if_pos c5] at H
        have c5b0 : decide ((wrap64 (x2_1 - x1_1)) ≤ 12) = true := decide_eq_true c5
        clear c5
        replace H := Option.bind_eq_some_iff.mp H
        obtain ⟨t601, A60, H⟩ := H
        replace H : (some t601) = some r := H
        have A6 := Aside0.mk A60
        clear A60
        obtain rfl := Option.some.inj H
        obtain ⟨Ao7, co7, eo7⟩ := Kd.R_slice HO_0.out
        subst eo7
        go_wp2_with (first | (go_at_call 49; (with_reducible refine (slices_insertionSortOrdered_int.calls k1 (fun k_ => some k_ = (.slice Ao7 x0_1.length co7 : Value).ownBlock) (.slice Ao7 x0_1.length co7) x0_1 x1_1 x2_1 t601 w0 _ ?side1 ?side2 A6.out).mono ?_); (case side1 => repeat (first | (with_reducible first | exact HB.out | apply below_alloc | apply pw_below_drewN | apply below_drew1) | exact HB.out)); (case side2 => exact Kd.R_tight rfl HO_0.out); rintro e w8 ⟨rfl, hy0, hb, hkp⟩; have n0_ := Aside0.mk (Kd.R_reok rfl hy0 (fun k_ e_ => HO_0.out.1 k_ e_)); have n1_ := Aside0.mk (Kept.then_ (S := (fun k_ => P0_ k_)) (by repeat (first | (with_reducible first | exact HK.out | apply Kept.alloc | apply Kept.drewN | apply Kept.drew) | exact HK.out)) hkp (fun k_ hs_ => (fun e_ => (HO_0.out.1 k_ e_.symm)) hs_)); have n2_ := Aside0.mk (hb); clear HO_0; clear HK; clear HB; have HO_0 := n0_; have HK := n1_; have HB := n2_; clear n0_ n1_ n2_; (try clear hb); (try clear hkp); (try clear hy0)))
        repeat (go_quiet (first | (go_at_call 49; (with_reducible refine (slices_insertionSortOrdered_int.calls k1 (fun k_ => some k_ = (.slice Ao7 x0_1.length co7 : Value).ownBlock) (.slice Ao7 x0_1.length co7) x0_1 x1_1 x2_1 t601 w0 _ ?side1 ?side2 A6.out).mono ?_); (case side1 => repeat (first | (with_reducible first | exact HB.out | apply below_alloc | apply pw_below_drewN | apply below_drew1) | exact HB.out)); (case side2 => exact Kd.R_tight rfl HO_0.out); rintro e w8 ⟨rfl, hy0, hb, hkp⟩; have n0_ := Aside0.mk (Kd.R_reok rfl hy0 (fun k_ e_ => HO_0.out.1 k_ e_)); have n1_ := Aside0.mk (Kept.then_ (S := (fun k_ => P0_ k_)) (by repeat (first | (with_reducible first | exact HK.out | apply Kept.alloc | apply Kept.drewN | apply Kept.drew) | exact HK.out)) hkp (fun k_ hs_ => (fun e_ => (HO_0.out.1 k_ e_.symm)) hs_)); have n2_ := Aside0.mk (hb); clear HO_0; clear HK; clear HB; have HO_0 := n0_; have HK := n1_; have HB := n2_; clear n0_ n1_ n2_; (try clear hb); (try clear hkp); (try clear hy0))); try go_wp2_with (first | (go_at_call 49; (with_reducible refine (slices_insertionSortOrdered_int.calls k1 (fun k_ => some k_ = (.slice Ao7 x0_1.length co7 : Value).ownBlock) (.slice Ao7 x0_1.length co7) x0_1 x1_1 x2_1 t601 w0 _ ?side1 ?side2 A6.out).mono ?_); (case side1 => repeat (first | (with_reducible first | exact HB.out | apply below_alloc | apply pw_below_drewN | apply below_drew1) | exact HB.out)); (case side2 => exact Kd.R_tight rfl HO_0.out); rintro e w8 ⟨rfl, hy0, hb, hkp⟩; have n0_ := Aside0.mk (Kd.R_reok rfl hy0 (fun k_ e_ => HO_0.out.1 k_ e_)); have n1_ := Aside0.mk (Kept.then_ (S := (fun k_ => P0_ k_)) (by repeat (first | (with_reducible first | exact HK.out | apply Kept.alloc | apply Kept.drewN | apply Kept.drew) | exact HK.out)) hkp (fun k_ hs_ => (fun e_ => (HO_0.out.1 k_ e_.symm)) hs_)); have n2_ := Aside0.mk (hb); clear HO_0; clear HK; clear HB; have HO_0 := n0_; have HK := n1_; have HB := n2_; clear n0_ n1_ n2_; (try clear hb); (try clear hkp); (try clear hy0))))
        first | go_end0 | ((try simp only [Exit.inBlock, Exit.then]); refine bodyPost_ret (results_none rfl _ _ _) rfl ?_)
        exact ⟨by first | rfl | (simp [errW_none, errW_some] <;> rfl) | (simp [*, errW_none, errW_some] <;> rfl), by (with_reducible repeat (first | apply Kd.R_alloc | apply Kd.R_drewN | apply Kd.R_drew)); exact HO_0.out, by repeat (first | (with_reducible first | exact HB.out | apply below_alloc | apply pw_below_drewN | apply below_drew1) | exact HB.out), by repeat (first | (with_reducible first | exact HK.out | apply Kept.alloc | apply Kept.drewN | apply Kept.drew) | exact HK.out)⟩
      rw [if_neg c5] at H
      have c5b0 : decide ((wrap64 (x2_1 - x1_1)) ≤ 12) = false := decide_eq_false c5
      clear c5
      by_cases c9 : x3_1 = 0
      · rw [if_pos c9] at H
        have c9b0 : (x3_1 == 0) = true := beq_iff_eq.mpr c9
        have c9b1 : (x3_1 != 0) = false := bne_eq_false_iff_eq.mpr c9
        clear c9
        replace H := Option.bind_eq_some_iff.mp H
        obtain ⟨t602, A100, H⟩ := H
        replace H : (some t602) = some r := H
        have A10 := Aside0.mk A100
        clear A100
        obtain rfl := Option.some.inj H
        obtain ⟨Ao11, co11, eo11⟩ := Kd.R_slice HO_0.out
        subst eo11
        go_wp2_with (first | (go_at_call 50; (with_reducible refine (slices_heapSortOrdered_int.calls k1 (fun k_ => some k_ = (.slice Ao11 x0_1.length co11 : Value).ownBlock) (.slice Ao11 x0_1.length co11) x0_1 x1_1 x2_1 t602 w0 _ ?side1 ?side2 A10.out).mono ?_); (case side1 => repeat (first | (with_reducible first | exact HB.out | apply below_alloc | apply pw_below_drewN | apply below_drew1) | exact HB.out)); (case side2 => exact Kd.R_tight rfl HO_0.out); rintro e w12 ⟨rfl, hy0, hb, hkp⟩; have n0_ := Aside0.mk (Kd.R_reok rfl hy0 (fun k_ e_ => HO_0.out.1 k_ e_)); have n1_ := Aside0.mk (Kept.then_ (S := (fun k_ => P0_ k_)) (by repeat (first | (with_reducible first | exact HK.out | apply Kept.alloc | apply Kept.drewN | apply Kept.drew) | exact HK.out)) hkp (fun k_ hs_ => (fun e_ => (HO_0.out.1 k_ e_.symm)) hs_)); have n2_ := Aside0.mk (hb); clear HO_0; clear HK; clear HB; have HO_0 := n0_; have HK := n1_; have HB := n2_; clear n0_ n1_ n2_; (try clear hb); (try clear hkp); (try clear hy0)))
        repeat (go_quiet (first | (go_at_call 50; (with_reducible refine (slices_heapSortOrdered_int.calls k1 (fun k_ => some k_ = (.slice Ao11 x0_1.length co11 : Value).ownBlock) (.slice Ao11 x0_1.length co11) x0_1 x1_1 x2_1 t602 w0 _ ?side1 ?side2 A10.out).mono ?_); (case side1 => repeat (first | (with_reducible first | exact HB.out | apply below_alloc | apply pw_below_drewN | apply below_drew1) | exact HB.out)); (case side2 => exact Kd.R_tight rfl HO_0.out); rintro e w12 ⟨rfl, hy0, hb, hkp⟩; have n0_ := Aside0.mk (Kd.R_reok rfl hy0 (fun k_ e_ => HO_0.out.1 k_ e_)); have n1_ := Aside0.mk (Kept.then_ (S := (fun k_ => P0_ k_)) (by repeat (first | (with_reducible first | exact HK.out | apply Kept.alloc | apply Kept.drewN | apply Kept.drew) | exact HK.out)) hkp (fun k_ hs_ => (fun e_ => (HO_0.out.1 k_ e_.symm)) hs_)); have n2_ := Aside0.mk (hb); clear HO_0; clear HK; clear HB; have HO_0 := n0_; have HK := n1_; have HB := n2_; clear n0_ n1_ n2_; (try clear hb); (try clear hkp); (try clear hy0))); try go_wp2_with (first | (go_at_call 50; (with_reducible refine (slices_heapSortOrdered_int.calls k1 (fun k_ => some k_ = (.slice Ao11 x0_1.length co11 : Value).ownBlock) (.slice Ao11 x0_1.length co11) x0_1 x1_1 x2_1 t602 w0 _ ?side1 ?side2 A10.out).mono ?_); (case side1 => repeat (first | (with_reducible first | exact HB.out | apply below_alloc | apply pw_below_drewN | apply below_drew1) | exact HB.out)); (case side2 => exact Kd.R_tight rfl HO_0.out); rintro e w12 ⟨rfl, hy0, hb, hkp⟩; have n0_ := Aside0.mk (Kd.R_reok rfl hy0 (fun k_ e_ => HO_0.out.1 k_ e_)); have n1_ := Aside0.mk (Kept.then_ (S := (fun k_ => P0_ k_)) (by repeat (first | (with_reducible first | exact HK.out | apply Kept.alloc | apply Kept.drewN | apply Kept.drew) | exact HK.out)) hkp (fun k_ hs_ => (fun e_ => (HO_0.out.1 k_ e_.symm)) hs_)); have n2_ := Aside0.mk (hb); clear HO_0; clear HK; clear HB; have HO_0 := n0_; have HK := n1_; have HB := n2_; clear n0_ n1_ n2_; (try clear hb); (try clear hkp); (try clear hy0))))
        first | go_end0 | ((try simp only [Exit.inBlock, Exit.then]); refine bodyPost_ret (results_none rfl _ _ _) rfl ?_)
        exact ⟨by first | rfl | (simp [errW_none, errW_some] <;> rfl) | (simp [*, errW_none, errW_some] <;> rfl), by (with_reducible repeat (first | apply Kd.R_alloc | apply Kd.R_drewN | apply Kd.R_drew)); exact HO_0.out, by repeat (first | (with_reducible first | exact HB.out | apply below_alloc | apply pw_below_drewN | apply below_drew1) | exact HB.out), by repeat (first | (with_reducible first | exact HK.out | apply Kept.alloc | apply Kept.drewN | apply Kept.drew) | exact HK.out)⟩
      rw [if_neg c9] at H
      have c9b0 : (x3_1 == 0) = false := beq_eq_false_iff_ne.mpr c9
      have c9b1 : (x3_1 != 0) = true := bne_iff_ne.mpr c9
      have HC13 := Aside0.mk H
      clear H
      go_upto_if 35 with (fail)
      repeat (go_quiet (fail); go_upto_if 35 with (fail))
      go_cut [3] (fun v3 wc => ∃ (kq : Nat) (x3_12 : Int), v3 = .int .i64 x3_12 ∧ Aside0 (slices_pdqsortOrdered_int.j1 kq x0_1 x1_1 x2_1 x3_12 x8_1 x9_1 (wrap64 (x2_1 - x1_1)) = some r) ∧ Aside0 (kq ≤ k1) ∧ Aside0 (Kd.R (Kd.int .i64) 3 wc w0.heap.size (fun k_ => (P0_ k_ ∨ w.heap.size ≤ k_)) u9000_ x0_1) ∧ Aside0 (Kept w wc (fun k_ => P0_ k_)) ∧ Aside0 (Below w0.heap.size w0 wc))
      case first =>
        have H := HC13.out
        clear HC13
        by_cases c14 : x8_1 = true
        · subst c14
          have H1 : (slices_pdqsortOrdered_int.j1 k1 x0_1 x1_1 x2_1 x3_1 true x9_1 (wrap64 (x2_1 - x1_1))) = some r := by rw [if_pos rfl] at H; exact H
          clear H
          have H := H1
          clear H1
          have H' := Aside0.mk H
          clear H
          go_wp2
          repeat (go_quiet (fail); try go_wp2)
          go_meet
          case rel => exact ⟨_, (x3_1), (by first | rfl | (simp; done) | (simp [*]; done)), H', ⟨by have := HK1.out; first | omega | exact Nat.le_refl _⟩, ⟨by (with_reducible repeat (first | apply Kd.R_alloc | apply Kd.R_drewN | apply Kd.R_drew)); exact HO_0.out⟩, ⟨by repeat (first | (with_reducible first | exact HK.out | apply Kept.alloc | apply Kept.drewN | apply Kept.drew) | exact HK.out)⟩, ⟨by repeat (first | (with_reducible first | exact HB.out | apply below_alloc | apply pw_below_drewN | apply below_drew1) | exact HB.out)⟩⟩
        replace c14 := Bool.eq_false_iff.mpr c14
        subst c14
        have H1 : ((slices_breakPatternsOrdered_int.f k1 x0_1 x1_1 x2_1).bind fun _ => (slices_pdqsortOrdered_int.j1 k1 x0_1 x1_1 x2_1 (wrap64 (x3_1 - 1)) false x9_1 (wrap64 (x2_1 - x1_1)))) = some r := by rw [if_neg (show ¬ (false = true) by decide)] at H; exact H
        clear H
        have H := H1
        clear H1
        replace H := Option.bind_eq_some_iff.mp H
        obtain ⟨_, A150, H⟩ := H
        replace H : (slices_pdqsortOrdered_int.j1 k1 x0_1 x1_1 x2_1 (wrap64 (x3_1 - 1)) false x9_1 (wrap64 (x2_1 - x1_1))) = some r := H
        have A15 := Aside0.mk A150
        clear A150
        have H' := Aside0.mk H
        clear H
        obtain ⟨Ao16, co16, eo16⟩ := Kd.R_slice HO_0.out
        subst eo16
        go_wp2_with (first | (go_at_call 51; (with_reducible refine (slices_breakPatternsOrdered_int.calls k1 _ _ x0_1 x1_1 x2_1  _ ?side1 ?side2 A15.out).mono ?_); (case side1 => repeat (first | exact (Kd.R_reads' HO_0.out).2.2 | (with_reducible refine Kd.C_alloc ?_ _) | (with_reducible refine Kd.C_drewN ?_ _) | (with_reducible refine Kd.C_drew ?_))); (case side2 => exact (Kd.R_reads' HO_0.out).2.1); rintro e w17 ⟨rfl, hb⟩; have n0_ := Aside0.mk (Kd.R_below (by (with_reducible repeat (first | apply Kd.R_alloc | apply Kd.R_drewN | apply Kd.R_drew)); exact HO_0.out) hb); have n1_ := Aside0.mk (Kept.below (S := (fun k_ => P0_ k_)) (by repeat (first | (with_reducible first | exact HK.out | apply Kept.alloc | apply Kept.drewN | apply Kept.drew) | exact HK.out)) hb); have n2_ := Aside0.mk (below_step (by repeat (first | (with_reducible first | exact HB.out | apply below_alloc | apply pw_below_drewN | apply below_drew1) | exact HB.out)) hb); clear HO_0; clear HK; clear HB; have HO_0 := n0_; have HK := n1_; have HB := n2_; clear n0_ n1_ n2_; (try clear hb); (try clear hb2); (try clear hk); (try clear hi)))
        repeat (go_quiet (first | (go_at_call 51; (with_reducible refine (slices_breakPatternsOrdered_int.calls k1 _ _ x0_1 x1_1 x2_1  _ ?side1 ?side2 A15.out).mono ?_); (case side1 => repeat (first | exact (Kd.R_reads' HO_0.out).2.2 | (with_reducible refine Kd.C_alloc ?_ _) | (with_reducible refine Kd.C_drewN ?_ _) | (with_reducible refine Kd.C_drew ?_))); (case side2 => exact (Kd.R_reads' HO_0.out).2.1); rintro e w17 ⟨rfl, hb⟩; have n0_ := Aside0.mk (Kd.R_below (by (with_reducible repeat (first | apply Kd.R_alloc | apply Kd.R_drewN | apply Kd.R_drew)); exact HO_0.out) hb); have n1_ := Aside0.mk (Kept.below (S := (fun k_ => P0_ k_)) (by repeat (first | (with_reducible first | exact HK.out | apply Kept.alloc | apply Kept.drewN | apply Kept.drew) | exact HK.out)) hb); have n2_ := Aside0.mk (below_step (by repeat (first | (with_reducible first | exact HB.out | apply below_alloc | apply pw_below_drewN | apply below_drew1) | exact HB.out)) hb); clear HO_0; clear HK; clear HB; have HO_0 := n0_; have HK := n1_; have HB := n2_; clear n0_ n1_ n2_; (try clear hb); (try clear hb2); (try clear hk); (try clear hi))); try go_wp2_with (first | (go_at_call 51; (with_reducible refine (slices_breakPatternsOrdered_int.calls k1 _ _ x0_1 x1_1 x2_1  _ ?side1 ?side2 A15.out).mono ?_); (case side1 => repeat (first | exact (Kd.R_reads' HO_0.out).2.2 | (with_reducible refine Kd.C_alloc ?_ _) | (with_reducible refine Kd.C_drewN ?_ _) | (with_reducible refine Kd.C_drew ?_))); (case side2 => exact (Kd.R_reads' HO_0.out).2.1); rintro e w17 ⟨rfl, hb⟩; have n0_ := Aside0.mk (Kd.R_below (by (with_reducible repeat (first | apply Kd.R_alloc | apply Kd.R_drewN | apply Kd.R_drew)); exact HO_0.out) hb); have n1_ := Aside0.mk (Kept.below (S := (fun k_ => P0_ k_)) (by repeat (first | (with_reducible first | exact HK.out | apply Kept.alloc | apply Kept.drewN | apply Kept.drew) | exact HK.out)) hb); have n2_ := Aside0.mk (below_step (by repeat (first | (with_reducible first | exact HB.out | apply below_alloc | apply pw_below_drewN | apply below_drew1) | exact HB.out)) hb); clear HO_0; clear HK; clear HB; have HO_0 := n0_; have HK := n1_; have HB := n2_; clear n0_ n1_ n2_; (try clear hb); (try clear hb2); (try clear hk); (try clear hi))))
        go_meet
        case rel => exact ⟨_, (wrap64 (x3_1 - 1)), (by first | rfl | (simp; done) | (simp [*]; done)), H', ⟨by have := HK1.out; first | omega | exact Nat.le_refl _⟩, ⟨by (with_reducible repeat (first | apply Kd.R_alloc | apply Kd.R_drewN | apply Kd.R_drew)); exact HO_0.out⟩, ⟨by repeat (first | (with_reducible first | exact HK.out | apply Kept.alloc | apply Kept.drewN | apply Kept.drew) | exact HK.out)⟩, ⟨by repeat (first | (with_reducible first | exact HB.out | apply below_alloc | apply pw_below_drewN | apply below_drew1) | exact HB.out)⟩⟩
      case rest =>
        clear HC13
        try clear c1
        try clear p2
        try clear c4
        try clear c5
        try clear c5b0
        try clear p6
        try clear c9
        try clear c9b0
        try clear c9b1
        try clear c14
        try clear p2
        obtain ⟨kq, x3_12, rfl, HA, HJ12, HO_0, HK, HB⟩ := hcut
        cases kq with
        | zero => exact absurd HA.out (by simp [slices_pdqsortOrdered_int.j1])
        | succ kj12 =>
          have H := HA.out
          clear HA
          simp only [slices_pdqsortOrdered_int.j1] at H
          replace H := Option.bind_eq_some_iff.mp H
          obtain ⟨⟨t603, t604⟩, A180, H⟩ := H
          replace H : (if t604 = 2 then ((slices_reverseRangeOrdered_int.f kj12 x0_1 x1_1 x2_1).bind fun t605 => (slices_pdqsortOrdered_int.j2 kj12 t605 x1_1 x2_1 x3_12 x8_1 x9_1 (wrap64 (x2_1 - x1_1)) (wrap64 ((wrap64 (x2_1 - 1)) - (wrap64 (t603 - x1_1)))) 1)) else (slices_pdqsortOrdered_int.j2 kj12 x0_1 x1_1 x2_1 x3_12 x8_1 x9_1 (wrap64 (x2_1 - x1_1)) t603 t604)) = some r := H
          have A18 := Aside0.mk A180
          clear A180
          have HC19 := Aside0.mk H
          clear H
          obtain ⟨Ao20, co20, eo20⟩ := Kd.R_slice HO_0.out
          subst eo20
          go_upto_if 50 with (first | (go_at_call 52; (with_reducible refine (slices_choosePivotOrdered_int.calls kj12 _ _ x0_1 x1_1 x2_1 t603 t604 _ ?side1 ?side2 A18.out).mono ?_); (case side1 => repeat (first | exact (Kd.R_reads' HO_0.out).2.2 | (with_reducible refine Kd.C_alloc ?_ _) | (with_reducible refine Kd.C_drewN ?_ _) | (with_reducible refine Kd.C_drew ?_))); (case side2 => exact (Kd.R_reads' HO_0.out).2.1); rintro e w21 ⟨rfl, hb⟩; have n0_ := Aside0.mk (Kd.R_below (by (with_reducible repeat (first | apply Kd.R_alloc | apply Kd.R_drewN | apply Kd.R_drew)); exact HO_0.out) hb); have n1_ := Aside0.mk (Kept.below (S := (fun k_ => P0_ k_)) (by repeat (first | (with_reducible first | exact HK.out | apply Kept.alloc | apply Kept.drewN | apply Kept.drew) | exact HK.out)) hb); have n2_ := Aside0.mk (below_step (by repeat (first | (with_reducible first | exact HB.out | apply below_alloc | apply pw_below_drewN | apply below_drew1) | exact HB.out)) hb); clear HO_0; clear HK; clear HB; have HO_0 := n0_; have HK := n1_; have HB := n2_; clear n0_ n1_ n2_; (try clear hb); (try clear hb2); (try clear hk); (try clear hi)))
          repeat (go_quiet (first | (go_at_call 52; (with_reducible refine (slices_choosePivotOrdered_int.calls kj12 _ _ x0_1 x1_1 x2_1 t603 t604 _ ?side1 ?side2 A18.out).mono ?_); (case side1 => repeat (first | exact (Kd.R_reads' HO_0.out).2.2 | (with_reducible refine Kd.C_alloc ?_ _) | (with_reducible refine Kd.C_drewN ?_ _) | (with_reducible refine Kd.C_drew ?_))); (case side2 => exact (Kd.R_reads' HO_0.out).2.1); rintro e w21 ⟨rfl, hb⟩; have n0_ := Aside0.mk (Kd.R_below (by (with_reducible repeat (first | apply Kd.R_alloc | apply Kd.R_drewN | apply Kd.R_drew)); exact HO_0.out) hb); have n1_ := Aside0.mk (Kept.below (S := (fun k_ => P0_ k_)) (by repeat (first | (with_reducible first | exact HK.out | apply Kept.alloc | apply Kept.drewN | apply Kept.drew) | exact HK.out)) hb); have n2_ := Aside0.mk (below_step (by repeat (first | (with_reducible first | exact HB.out | apply below_alloc | apply pw_below_drewN | apply below_drew1) | exact HB.out)) hb); clear HO_0; clear HK; clear HB; have HO_0 := n0_; have HK := n1_; have HB := n2_; clear n0_ n1_ n2_; (try clear hb); (try clear hb2); (try clear hk); (try clear hi))); go_upto_if 50 with (first | (go_at_call 52; (with_reducible refine (slices_choosePivotOrdered_int.calls kj12 _ _ x0_1 x1_1 x2_1 t603 t604 _ ?side1 ?side2 A18.out).mono ?_); (case side1 => repeat (first | exact (Kd.R_reads' HO_0.out).2.2 | (with_reducible refine Kd.C_alloc ?_ _) | (with_reducible refine Kd.C_drewN ?_ _) | (with_reducible refine Kd.C_drew ?_))); (case side2 => exact (Kd.R_reads' HO_0.out).2.1); rintro e w21 ⟨rfl, hb⟩; have n0_ := Aside0.mk (Kd.R_below (by (with_reducible repeat (first | apply Kd.R_alloc | apply Kd.R_drewN | apply Kd.R_drew)); exact HO_0.out) hb); have n1_ := Aside0.mk (Kept.below (S := (fun k_ => P0_ k_)) (by repeat (first | (with_reducible first | exact HK.out | apply Kept.alloc | apply Kept.drewN | apply Kept.drew) | exact HK.out)) hb); have n2_ := Aside0.mk (below_step (by repeat (first | (with_reducible first | exact HB.out | apply below_alloc | apply pw_below_drewN | apply below_drew1) | exact HB.out)) hb); clear HO_0; clear HK; clear HB; have HO_0 := n0_; have HK := n1_; have HB := n2_; clear n0_ n1_ n2_; (try clear hb); (try clear hb2); (try clear hk); (try clear hi))))
          (try simp only [Act.put, List.setIfInBounds_toArray, List.set_cons_zero, List.set_cons_succ])
          go_cut [11, 12] (fun v11 v12 wc => ∃ (kq : Nat) (x0_18 : List Int) (x11_18 : Int) (x12_18 : Int), v11 = .int .i64 x11_18 ∧ v12 = .int .i64 x12_18 ∧ Aside0 (slices_pdqsortOrdered_int.j2 kq x0_18 x1_1 x2_1 x3_12 x8_1 x9_1 (wrap64 (x2_1 - x1_1)) x11_18 x12_18 = some r) ∧ Aside0 (kq ≤ kj12) ∧ Aside0 (Kd.R (Kd.int .i64) 3 wc w0.heap.size (fun k_ => (P0_ k_ ∨ w.heap.size ≤ k_)) (.slice Ao20 x0_1.length co20) x0_18) ∧ Aside0 (Kept w wc (fun k_ => P0_ k_)) ∧ Aside0 (Below w0.heap.size w0 wc))
          case first =>
            have H := HC19.out
            clear HC19
            by_cases c22 : t604 = 2
            rotate_left
            · rw [if_neg c22] at H
              have c22b0 : (t604 == 2) = false := beq_eq_false_iff_ne.mpr c22
              have c22b1 : (t604 != 2) = true := bne_iff_ne.mpr c22
              (first | rw [c22b0] | (simp only [i64_w, i32_w]; rw [c22b0]) | skip)
              have H' := Aside0.mk H
              clear H
              go_wp2
              repeat (go_quiet (fail); try go_wp2)
              go_meet
              case rel => exact ⟨_, (x0_1), (t603), (t604), (by first | rfl | (simp; done) | (simp [*]; done)), (by first | rfl | (simp; done) | (simp [*]; done)), H', ⟨by have := HK1.out; have := HJ12.out; first | omega | exact Nat.le_refl _⟩, ⟨by (with_reducible repeat (first | apply Kd.R_alloc | apply Kd.R_drewN | apply Kd.R_drew)); exact HO_0.out⟩, ⟨by repeat (first | (with_reducible first | exact HK.out | apply Kept.alloc | apply Kept.drewN | apply Kept.drew) | exact HK.out)⟩, ⟨by repeat (first | (with_reducible first | exact HB.out | apply below_alloc | apply pw_below_drewN | apply below_drew1) | exact HB.out)⟩⟩
            rw [if_pos c22] at H
            have c22b0 : (t604 == 2) = true := beq_iff_eq.mpr c22
            have c22b1 : (t604 != 2) = false := bne_eq_false_iff_eq.mpr c22
            clear c22
            (first | rw [c22b0] | (simp only [i64_w, i32_w]; rw [c22b0]) | skip)
            replace H := Option.bind_eq_some_iff.mp H
            obtain ⟨t605, A230, H⟩ := H
            replace H : (slices_pdqsortOrdered_int.j2 kj12 t605 x1_1 x2_1 x3_12 x8_1 x9_1 (wrap64 (x2_1 - x1_1)) (wrap64 ((wrap64 (x2_1 - 1)) - (wrap64 (t603 - x1_1)))) 1) = some r := H
            have A23 := Aside0.mk A230
            clear A230
            have H' := Aside0.mk H
            clear H
            go_wp2_with (first | (go_at_call 53; (with_reducible refine (slices_reverseRangeOrdered_int.calls kj12 (fun k_ => some k_ = (.slice Ao20 x0_1.length co20 : Value).ownBlock) (.slice Ao20 x0_1.length co20) x0_1 x1_1 x2_1 t605 w0 _ ?side1 ?side2 A23.out).mono ?_); (case side1 => repeat (first | (with_reducible first | exact HB.out | apply below_alloc | apply pw_below_drewN | apply below_drew1) | exact HB.out)); (case side2 => exact Kd.R_tight rfl HO_0.out); rintro e w24 ⟨rfl, hy0, hb, hkp⟩; have n0_ := Aside0.mk (Kd.R_reok rfl hy0 (fun k_ e_ => HO_0.out.1 k_ e_)); have n1_ := Aside0.mk (Kept.then_ (S := (fun k_ => P0_ k_)) (by repeat (first | (with_reducible first | exact HK.out | apply Kept.alloc | apply Kept.drewN | apply Kept.drew) | exact HK.out)) hkp (fun k_ hs_ => (fun e_ => (HO_0.out.1 k_ e_.symm)) hs_)); have n2_ := Aside0.mk (hb); clear HO_0; clear HK; clear HB; have HO_0 := n0_; have HK := n1_; have HB := n2_; clear n0_ n1_ n2_; (try clear hb); (try clear hkp); (try clear hy0)))
            repeat (go_quiet (first | (go_at_call 53; (with_reducible refine (slices_reverseRangeOrdered_int.calls kj12 (fun k_ => some k_ = (.slice Ao20 x0_1.length co20 : Value).ownBlock) (.slice Ao20 x0_1.length co20) x0_1 x1_1 x2_1 t605 w0 _ ?side1 ?side2 A23.out).mono ?_); (case side1 => repeat (first | (with_reducible first | exact HB.out | apply below_alloc | apply pw_below_drewN | apply below_drew1) | exact HB.out)); (case side2 => exact Kd.R_tight rfl HO_0.out); rintro e w24 ⟨rfl, hy0, hb, hkp⟩; have n0_ := Aside0.mk (Kd.R_reok rfl hy0 (fun k_ e_ => HO_0.out.1 k_ e_)); have n1_ := Aside0.mk (Kept.then_ (S := (fun k_ => P0_ k_)) (by repeat (first | (with_reducible first | exact HK.out | apply Kept.alloc | apply Kept.drewN | apply Kept.drew) | exact HK.out)) hkp (fun k_ hs_ => (fun e_ => (HO_0.out.1 k_ e_.symm)) hs_)); have n2_ := Aside0.mk (hb); clear HO_0; clear HK; clear HB; have HO_0 := n0_; have HK := n1_; have HB := n2_; clear n0_ n1_ n2_; (try clear hb); (try clear hkp); (try clear hy0))); try go_wp2_with (first | (go_at_call 53; (with_reducible refine (slices_reverseRangeOrdered_int.calls kj12 (fun k_ => some k_ = (.slice Ao20 x0_1.length co20 : Value).ownBlock) (.slice Ao20 x0_1.length co20) x0_1 x1_1 x2_1 t605 w0 _ ?side1 ?side2 A23.out).mono ?_); (case side1 => repeat (first | (with_reducible first | exact HB.out | apply below_alloc | apply pw_below_drewN | apply below_drew1) | exact HB.out)); (case side2 => exact Kd.R_tight rfl HO_0.out); rintro e w24 ⟨rfl, hy0, hb, hkp⟩; have n0_ := Aside0.mk (Kd.R_reok rfl hy0 (fun k_ e_ => HO_0.out.1 k_ e_)); have n1_ := Aside0.mk (Kept.then_ (S := (fun k_ => P0_ k_)) (by repeat (first | (with_reducible first | exact HK.out | apply Kept.alloc | apply Kept.drewN | apply Kept.drew) | exact HK.out)) hkp (fun k_ hs_ => (fun e_ => (HO_0.out.1 k_ e_.symm)) hs_)); have n2_ := Aside0.mk (hb); clear HO_0; clear HK; clear HB; have HO_0 := n0_; have HK := n1_; have HB := n2_; clear n0_ n1_ n2_; (try clear hb); (try clear hkp); (try clear hy0))))
            go_meet
            case rel => exact ⟨_, (t605), (wrap64 ((wrap64 (x2_1 - 1)) - (wrap64 (t603 - x1_1)))), (1), (by first | rfl | (simp; done) | (simp [*]; done)), (by first | rfl | (simp; done) | (simp [*]; done)), H', ⟨by have := HK1.out; have := HJ12.out; first | omega | exact Nat.le_refl _⟩, ⟨by (with_reducible repeat (first | apply Kd.R_alloc | apply Kd.R_drewN | apply Kd.R_drew)); exact HO_0.out⟩, ⟨by repeat (first | (with_reducible first | exact HK.out | apply Kept.alloc | apply Kept.drewN | apply Kept.drew) | exact HK.out)⟩, ⟨by repeat (first | (with_reducible first | exact HB.out | apply below_alloc | apply pw_below_drewN | apply below_drew1) | exact HB.out)⟩⟩
          case rest =>
            clear HC19
            try clear c1
            try clear c2
            try clear p2
            try clear c4
            try clear c5
            try clear c5b0
            try clear p6
            try clear c9
            try clear c9b0
            try clear c9b1
            try clear c14
            try clear c22
            try clear c22b0
            try clear c22b1
            try clear p2
            try clear p6
            obtain ⟨kq, x0_18, x11_18, x12_18, rfl, rfl, HA, HJ18, HO_0, HK, HB⟩ := hcut
            have hl0_18 := (Kd.R_reads' HO_0.out).1
            rw [hl0_18] at HO_0
            (try simp only [hl0_18])
            cases kq with
            | zero => exact absurd HA.out (by simp [slices_pdqsortOrdered_int.j2])
            | succ kj18 =>
              have H := HA.out
              clear HA
              simp only [slices_pdqsortOrdered_int.j2] at H
              have HC25 := Aside0.mk H
              clear H
              go_upto_region 15 with (fail)
              repeat (go_quiet (fail); go_upto_region 15 with (fail))
              go_cut [68] (fun v68 wc => ∃ (kq : Nat) (x68_24 : Bool), v68 = .bool x68_24 ∧ Aside0 (slices_pdqsortOrdered_int.j3 kq x0_18 x1_1 x2_1 x3_12 x8_1 x9_1 (wrap64 (x2_1 - x1_1)) x11_18 x68_24 = some r) ∧ Aside0 (kq ≤ kj18) ∧ Aside0 (Kd.R (Kd.int .i64) 3 wc w0.heap.size (fun k_ => (P0_ k_ ∨ w.heap.size ≤ k_)) (.slice Ao20 x0_18.length co20) x0_18) ∧ Aside0 (Kept w wc (fun k_ => P0_ k_)) ∧ Aside0 (Below w0.heap.size w0 wc))
              case first =>
                have H := HC25.out
                clear HC25
                by_cases c26 : x8_1 = true
                rotate_left
                · replace c26 := Bool.eq_false_iff.mpr c26
                  subst c26
                  have H1 : (slices_pdqsortOrdered_int.j3 kj18 x0_18 x1_1 x2_1 x3_12 false x9_1 (wrap64 (x2_1 - x1_1)) x11_18 false) = some r := by rw [if_neg (show ¬ (false = true) by decide)] at H; exact H
                  clear H
                  have H := H1
                  clear H1
                  have H' := Aside0.mk H
                  clear H
                  go_wp2
                  repeat (go_quiet (fail); try go_wp2)
                  go_meet
                  case rel => exact ⟨_, (false), (by first | rfl | (simp; done) | (simp [*]; done)), H', ⟨by have := HK1.out; have := HJ12.out; have := HJ18.out; first | omega | exact Nat.le_refl _⟩, ⟨by (try simp only [hl0_18]); (with_reducible repeat (first | apply Kd.R_alloc | apply Kd.R_drewN | apply Kd.R_drew)); exact HO_0.out⟩, ⟨by repeat (first | (with_reducible first | exact HK.out | apply Kept.alloc | apply Kept.drewN | apply Kept.drew) | exact HK.out)⟩, ⟨by repeat (first | (with_reducible first | exact HB.out | apply below_alloc | apply pw_below_drewN | apply below_drew1) | exact HB.out)⟩⟩
                subst c26
                have H1 : (if x9_1 = true then (slices_pdqsortOrdered_int.j3 kj18 x0_18 x1_1 x2_1 x3_12 true x9_1 (wrap64 (x2_1 - x1_1)) x11_18 (x12_18 == 1)) else (slices_pdqsortOrdered_int.j3 kj18 x0_18 x1_1 x2_1 x3_12 true x9_1 (wrap64 (x2_1 - x1_1)) x11_18 false)) = some r := by rw [if_pos rfl] at H; exact H
                clear H
                have H := H1
                clear H1
                by_cases c27 : x9_1 = true
                · subst c27
                  have H1 : (slices_pdqsortOrdered_int.j3 kj18 x0_18 x1_1 x2_1 x3_12 true true (wrap64 (x2_1 - x1_1)) x11_18 (x12_18 == 1)) = some r := by rw [if_pos rfl] at H; exact H
                  clear H
                  have H := H1
                  clear H1
                  have H' := Aside0.mk H
                  clear H
                  go_wp2
                  repeat (go_quiet (fail); try go_wp2)
                  go_meet
                  case rel => exact ⟨_, ((x12_18 == 1)), (by first | rfl | (simp; done) | (simp [*]; done)), H', ⟨by have := HK1.out; have := HJ12.out; have := HJ18.out; first | omega | exact Nat.le_refl _⟩, ⟨by (try simp only [hl0_18]); (with_reducible repeat (first | apply Kd.R_alloc | apply Kd.R_drewN | apply Kd.R_drew)); exact HO_0.out⟩, ⟨by repeat (first | (with_reducible first | exact HK.out | apply Kept.alloc | apply Kept.drewN | apply Kept.drew) | exact HK.out)⟩, ⟨by repeat (first | (with_reducible first | exact HB.out | apply below_alloc | apply pw_below_drewN | apply below_drew1) | exact HB.out)⟩⟩
                replace c27 := Bool.eq_false_iff.mpr c27
                subst c27
                have H1 : (slices_pdqsortOrdered_int.j3 kj18 x0_18 x1_1 x2_1 x3_12 true false (wrap64 (x2_1 - x1_1)) x11_18 false) = some r := by rw [if_neg (show ¬ (false = true) by decide)] at H; exact H
                clear H
                have H := H1
                clear H1
                have H' := Aside0.mk H
                clear H
                go_wp2
                repeat (go_quiet (fail); try go_wp2)
                go_meet
                case rel => exact ⟨_, (false), (by first | rfl | (simp; done) | (simp [*]; done)), H', ⟨by have := HK1.out; have := HJ12.out; have := HJ18.out; first | omega | exact Nat.le_refl _⟩, ⟨by (try simp only [hl0_18]); (with_reducible repeat (first | apply Kd.R_alloc | apply Kd.R_drewN | apply Kd.R_drew)); exact HO_0.out⟩, ⟨by repeat (first | (with_reducible first | exact HK.out | apply Kept.alloc | apply Kept.drewN | apply Kept.drew) | exact HK.out)⟩, ⟨by repeat (first | (with_reducible first | exact HB.out | apply below_alloc | apply pw_below_drewN | apply below_drew1) | exact HB.out)⟩⟩
              case rest =>
                clear HC25
                try clear c1
                try clear c2
                try clear p2
                try clear c4
                try clear c5
                try clear c5b0
                try clear p6
                try clear c9
                try clear c9b0
                try clear c9b1
                try clear c14
                try clear c22
                try clear c22b0
                try clear c22b1
                try clear c26
                try clear c27
                try clear p2
                try clear p6
                obtain ⟨kq, x68_24, rfl, HA, HJ24, HO_0, HK, HB⟩ := hcut
                cases kq with
                | zero => exact absurd HA.out (by simp [slices_pdqsortOrdered_int.j3])
                | succ kj24 =>
                  have H := HA.out
                  clear HA
                  simp only [slices_pdqsortOrdered_int.j3] at H
                  have HC28 := Aside0.mk H
                  clear H
                  go_upto_if 68 with (fail)
                  repeat (go_quiet (fail); go_upto_if 68 with (fail))
                  go_cut [] (fun wc => ∃ (kq : Nat) (x0_27 : List Int), Aside0 (slices_pdqsortOrdered_int.j4 kq x0_27 x1_1 x2_1 x3_12 x8_1 x9_1 (wrap64 (x2_1 - x1_1)) x11_18 = some r) ∧ Aside0 (kq ≤ kj24) ∧ Aside0 (Kd.R (Kd.int .i64) 3 wc w0.heap.size (fun k_ => (P0_ k_ ∨ w.heap.size ≤ k_)) (.slice Ao20 x0_18.length co20) x0_27) ∧ Aside0 (Kept w wc (fun k_ => P0_ k_)) ∧ Aside0 (Below w0.heap.size w0 wc))
                  case first =>
                    have H := HC28.out
                    clear HC28
                    by_cases c29 : x68_24 = true
                    rotate_left
                    · replace c29 := Bool.eq_false_iff.mpr c29
                      subst c29
                      have H1 : (slices_pdqsortOrdered_int.j4 kj24 x0_18 x1_1 x2_1 x3_12 x8_1 x9_1 (wrap64 (x2_1 - x1_1)) x11_18) = some r := by rw [if_neg (show ¬ (false = true) by decide)] at H; exact H
                      clear H
                      have H := H1
                      clear H1
                      have H' := Aside0.mk H
                      clear H
                      go_wp2
                      repeat (go_quiet (fail); try go_wp2)
                      go_meet
                      case rel => exact ⟨_, (x0_18), H', ⟨by have := HK1.out; have := HJ12.out; have := HJ18.out; have := HJ24.out; first | omega | exact Nat.le_refl _⟩, ⟨by (try simp only [hl0_18]); (with_reducible repeat (first | apply Kd.R_alloc | apply Kd.R_drewN | apply Kd.R_drew)); exact HO_0.out⟩, ⟨by repeat (first | (with_reducible first | exact HK.out | apply Kept.alloc | apply Kept.drewN | apply Kept.drew) | exact HK.out)⟩, ⟨by repeat (first | (with_reducible first | exact HB.out | apply below_alloc | apply pw_below_drewN | apply below_drew1) | exact HB.out)⟩⟩
                    subst c29
                    have H1 : ((slices_partialInsertionSortOrdered_int.f kj24 x0_18 x1_1 x2_1).bind fun bt606 => (if bt606.1 = true then (some bt606.2) else (slices_pdqsortOrdered_int.j4 kj24 bt606.2 x1_1 x2_1 x3_12 x8_1 x9_1 (wrap64 (x2_1 - x1_1)) x11_18))) = some r := by rw [if_pos rfl] at H; exact H
                    clear H
                    have H := H1
                    clear H1
                    replace H := Option.bind_eq_some_iff.mp H
                    obtain ⟨⟨t606, t607⟩, A300, H⟩ := H
                    replace H : (if t606 = true then (some t607) else (slices_pdqsortOrdered_int.j4 kj24 t607 x1_1 x2_1 x3_12 x8_1 x9_1 (wrap64 (x2_1 - x1_1)) x11_18)) = some r := H
                    have A30 := Aside0.mk A300
                    clear A300
                    by_cases c31 : t606 = true
                    · subst c31
                      have H1 : (some t607) = some r := by rw [if_pos rfl] at H; exact H
                      clear H
                      have H := H1
                      clear H1
                      obtain rfl := Option.some.inj H
                      go_wp2_with (first | (go_at_call 54; (with_reducible refine (slices_partialInsertionSortOrdered_int.calls kj24 (fun k_ => some k_ = (.slice Ao20 x0_18.length co20 : Value).ownBlock) (.slice Ao20 x0_18.length co20) x0_18 x1_1 x2_1 true t607 w0 _ ?side1 ?side2 A30.out).mono ?_); (case side1 => repeat (first | (with_reducible first | exact HB.out | apply below_alloc | apply pw_below_drewN | apply below_drew1) | exact HB.out)); (case side2 => exact Kd.R_tight rfl HO_0.out); rintro e w32 ⟨rfl, hy0, hb, hkp⟩; have n0_ := Aside0.mk (Kd.R_reok rfl hy0 (fun k_ e_ => HO_0.out.1 k_ e_)); have n1_ := Aside0.mk (Kept.then_ (S := (fun k_ => P0_ k_)) (by repeat (first | (with_reducible first | exact HK.out | apply Kept.alloc | apply Kept.drewN | apply Kept.drew) | exact HK.out)) hkp (fun k_ hs_ => (fun e_ => (HO_0.out.1 k_ e_.symm)) hs_)); have n2_ := Aside0.mk (hb); clear HO_0; clear HK; clear HB; have HO_0 := n0_; have HK := n1_; have HB := n2_; clear n0_ n1_ n2_; (try clear hb); (try clear hkp); (try clear hy0)))
                      repeat (go_quiet (first | (go_at_call 54; (with_reducible refine (slices_partialInsertionSortOrdered_int.calls kj24 (fun k_ => some k_ = (.slice Ao20 x0_18.length co20 : Value).ownBlock) (.slice Ao20 x0_18.length co20) x0_18 x1_1 x2_1 true t607 w0 _ ?side1 ?side2 A30.out).mono ?_); (case side1 => repeat (first | (with_reducible first | exact HB.out | apply below_alloc | apply pw_below_drewN | apply below_drew1) | exact HB.out)); (case side2 => exact Kd.R_tight rfl HO_0.out); rintro e w32 ⟨rfl, hy0, hb, hkp⟩; have n0_ := Aside0.mk (Kd.R_reok rfl hy0 (fun k_ e_ => HO_0.out.1 k_ e_)); have n1_ := Aside0.mk (Kept.then_ (S := (fun k_ => P0_ k_)) (by repeat (first | (with_reducible first | exact HK.out | apply Kept.alloc | apply Kept.drewN | apply Kept.drew) | exact HK.out)) hkp (fun k_ hs_ => (fun e_ => (HO_0.out.1 k_ e_.symm)) hs_)); have n2_ := Aside0.mk (hb); clear HO_0; clear HK; clear HB; have HO_0 := n0_; have HK := n1_; have HB := n2_; clear n0_ n1_ n2_; (try clear hb); (try clear hkp); (try clear hy0))); try go_wp2_with (first | (go_at_call 54; (with_reducible refine (slices_partialInsertionSortOrdered_int.calls kj24 (fun k_ => some k_ = (.slice Ao20 x0_18.length co20 : Value).ownBlock) (.slice Ao20 x0_18.length co20) x0_18 x1_1 x2_1 true t607 w0 _ ?side1 ?side2 A30.out).mono ?_); (case side1 => repeat (first | (with_reducible first | exact HB.out | apply below_alloc | apply pw_below_drewN | apply below_drew1) | exact HB.out)); (case side2 => exact Kd.R_tight rfl HO_0.out); rintro e w32 ⟨rfl, hy0, hb, hkp⟩; have n0_ := Aside0.mk (Kd.R_reok rfl hy0 (fun k_ e_ => HO_0.out.1 k_ e_)); have n1_ := Aside0.mk (Kept.then_ (S := (fun k_ => P0_ k_)) (by repeat (first | (with_reducible first | exact HK.out | apply Kept.alloc | apply Kept.drewN | apply Kept.drew) | exact HK.out)) hkp (fun k_ hs_ => (fun e_ => (HO_0.out.1 k_ e_.symm)) hs_)); have n2_ := Aside0.mk (hb); clear HO_0; clear HK; clear HB; have HO_0 := n0_; have HK := n1_; have HB := n2_; clear n0_ n1_ n2_; (try clear hb); (try clear hkp); (try clear hy0))))
                      first | go_end0 | ((try simp only [Exit.inBlock, Exit.then]); refine bodyPost_ret (results_none rfl _ _ _) rfl ?_)
                      exact ⟨by first | rfl | (simp [errW_none, errW_some] <;> rfl) | (simp [*, errW_none, errW_some] <;> rfl), (by first | exact (by (with_reducible repeat (first | apply Kd.R_alloc | apply Kd.R_drewN | apply Kd.R_drew)); exact HO_0.out) | (simp only [hl0_18]; exact (by (with_reducible repeat (first | apply Kd.R_alloc | apply Kd.R_drewN | apply Kd.R_drew)); exact HO_0.out))), by repeat (first | (with_reducible first | exact HB.out | apply below_alloc | apply pw_below_drewN | apply below_drew1) | exact HB.out), by repeat (first | (with_reducible first | exact HK.out | apply Kept.alloc | apply Kept.drewN | apply Kept.drew) | exact HK.out)⟩
                    replace c31 := Bool.eq_false_iff.mpr c31
                    subst c31
                    have H1 : (slices_pdqsortOrdered_int.j4 kj24 t607 x1_1 x2_1 x3_12 x8_1 x9_1 (wrap64 (x2_1 - x1_1)) x11_18) = some r := by rw [if_neg (show ¬ (false = true) by decide)] at H; exact H
                    clear H
                    have H := H1
                    clear H1
                    have H' := Aside0.mk H
                    clear H
                    go_wp2_with (first | (go_at_call 54; (with_reducible refine (slices_partialInsertionSortOrdered_int.calls kj24 (fun k_ => some k_ = (.slice Ao20 x0_18.length co20 : Value).ownBlock) (.slice Ao20 x0_18.length co20) x0_18 x1_1 x2_1 false t607 w0 _ ?side1 ?side2 A30.out).mono ?_); (case side1 => repeat (first | (with_reducible first | exact HB.out | apply below_alloc | apply pw_below_drewN | apply below_drew1) | exact HB.out)); (case side2 => exact Kd.R_tight rfl HO_0.out); rintro e w33 ⟨rfl, hy0, hb, hkp⟩; have n0_ := Aside0.mk (Kd.R_reok rfl hy0 (fun k_ e_ => HO_0.out.1 k_ e_)); have n1_ := Aside0.mk (Kept.then_ (S := (fun k_ => P0_ k_)) (by repeat (first | (with_reducible first | exact HK.out | apply Kept.alloc | apply Kept.drewN | apply Kept.drew) | exact HK.out)) hkp (fun k_ hs_ => (fun e_ => (HO_0.out.1 k_ e_.symm)) hs_)); have n2_ := Aside0.mk (hb); clear HO_0; clear HK; clear HB; have HO_0 := n0_; have HK := n1_; have HB := n2_; clear n0_ n1_ n2_; (try clear hb); (try clear hkp); (try clear hy0)))
                    repeat (go_quiet (first | (go_at_call 54; (with_reducible refine (slices_partialInsertionSortOrdered_int.calls kj24 (fun k_ => some k_ = (.slice Ao20 x0_18.length co20 : Value).ownBlock) (.slice Ao20 x0_18.length co20) x0_18 x1_1 x2_1 false t607 w0 _ ?side1 ?side2 A30.out).mono ?_); (case side1 => repeat (first | (with_reducible first | exact HB.out | apply below_alloc | apply pw_below_drewN | apply below_drew1) | exact HB.out)); (case side2 => exact Kd.R_tight rfl HO_0.out); rintro e w33 ⟨rfl, hy0, hb, hkp⟩; have n0_ := Aside0.mk (Kd.R_reok rfl hy0 (fun k_ e_ => HO_0.out.1 k_ e_)); have n1_ := Aside0.mk (Kept.then_ (S := (fun k_ => P0_ k_)) (by repeat (first | (with_reducible first | exact HK.out | apply Kept.alloc | apply Kept.drewN | apply Kept.drew) | exact HK.out)) hkp (fun k_ hs_ => (fun e_ => (HO_0.out.1 k_ e_.symm)) hs_)); have n2_ := Aside0.mk (hb); clear HO_0; clear HK; clear HB; have HO_0 := n0_; have HK := n1_; have HB := n2_; clear n0_ n1_ n2_; (try clear hb); (try clear hkp); (try clear hy0))); try go_wp2_with (first | (go_at_call 54; (with_reducible refine (slices_partialInsertionSortOrdered_int.calls kj24 (fun k_ => some k_ = (.slice Ao20 x0_18.length co20 : Value).ownBlock) (.slice Ao20 x0_18.length co20) x0_18 x1_1 x2_1 false t607 w0 _ ?side1 ?side2 A30.out).mono ?_); (case side1 => repeat (first | (with_reducible first | exact HB.out | apply below_alloc | apply pw_below_drewN | apply below_drew1) | exact HB.out)); (case side2 => exact Kd.R_tight rfl HO_0.out); rintro e w33 ⟨rfl, hy0, hb, hkp⟩; have n0_ := Aside0.mk (Kd.R_reok rfl hy0 (fun k_ e_ => HO_0.out.1 k_ e_)); have n1_ := Aside0.mk (Kept.then_ (S := (fun k_ => P0_ k_)) (by repeat (first | (with_reducible first | exact HK.out | apply Kept.alloc | apply Kept.drewN | apply Kept.drew) | exact HK.out)) hkp (fun k_ hs_ => (fun e_ => (HO_0.out.1 k_ e_.symm)) hs_)); have n2_ := Aside0.mk (hb); clear HO_0; clear HK; clear HB; have HO_0 := n0_; have HK := n1_; have HB := n2_; clear n0_ n1_ n2_; (try clear hb); (try clear hkp); (try clear hy0))))
                    go_meet
                    case rel => exact ⟨_, (t607), H', ⟨by have := HK1.out; have := HJ12.out; have := HJ18.out; have := HJ24.out; first | omega | exact Nat.le_refl _⟩, ⟨by (try simp only [hl0_18]); (with_reducible repeat (first | apply Kd.R_alloc | apply Kd.R_drewN | apply Kd.R_drew)); exact HO_0.out⟩, ⟨by repeat (first | (with_reducible first | exact HK.out | apply Kept.alloc | apply Kept.drewN | apply Kept.drew) | exact HK.out)⟩, ⟨by repeat (first | (with_reducible first | exact HB.out | apply below_alloc | apply pw_below_drewN | apply below_drew1) | exact HB.out)⟩⟩
                  case rest =>
                    clear HC28
                    try clear c1
                    try clear c2
                    try clear p2
                    try clear c3
                    try clear c4
                    try clear c5
                    try clear c5b0
                    try clear p6
                    try clear c9
                    try clear c9b0
                    try clear c9b1
                    try clear c14
                    try clear c22
                    try clear c22b0
                    try clear c22b1
                    try clear c26
                    try clear c27
                    try clear c29
                    try clear c31
                    try clear p2
                    try clear p6
                    obtain ⟨kq, x0_27, HA, HJ27, HO_0, HK, HB⟩ := hcut
                    have hl0_27 := (Kd.R_reads' HO_0.out).1
                    rw [hl0_27] at HO_0
                    (try simp only [hl0_27])
                    cases kq with
                    | zero => exact absurd HA.out (by simp [slices_pdqsortOrdered_int.j4])
                    | succ kj27 =>
                      have H := HA.out
                      clear HA
                      simp only [slices_pdqsortOrdered_int.j4] at H
                      have HC34 := Aside0.mk H
                      clear H
                      go_upto_region 17 with (fail)
                      repeat (go_quiet (fail); go_upto_region 17 with (fail))
                      go_cut [87] (fun v87 wc => ∃ (kq : Nat) (x87_33 : Bool), v87 = .bool x87_33 ∧ Aside0 (slices_pdqsortOrdered_int.j5 kq x0_27 x1_1 x2_1 x3_12 x8_1 x9_1 (wrap64 (x2_1 - x1_1)) x11_18 x87_33 = some r) ∧ Aside0 (kq ≤ kj27) ∧ Aside0 (Kd.R (Kd.int .i64) 3 wc w0.heap.size (fun k_ => (P0_ k_ ∨ w.heap.size ≤ k_)) (.slice Ao20 x0_27.length co20) x0_27) ∧ Aside0 (Kept w wc (fun k_ => P0_ k_)) ∧ Aside0 (Below w0.heap.size w0 wc))
                      case first =>
                        have H := HC34.out
                        clear HC34
                        by_cases c35 : x1_1 > 0
                        rotate_left
                        · rw [if_neg c35] at H
                          have c35b0 : decide (0 < x1_1) = false := decide_eq_false c35
                          clear c35
                          (first | rw [c35b0] | (simp only [i64_w, i32_w]; rw [c35b0]) | skip)
                          have H' := Aside0.mk H
                          clear H
                          go_wp2
                          repeat (go_quiet (fail); try go_wp2)
                          go_meet
                          case rel => exact ⟨_, (false), (by first | rfl | (simp; done) | (simp [*]; done)), H', ⟨by have := HK1.out; have := HJ12.out; have := HJ18.out; have := HJ24.out; have := HJ27.out; first | omega | exact Nat.le_refl _⟩, ⟨by (try simp only [hl0_18]); (try simp only [hl0_27]); (with_reducible repeat (first | apply Kd.R_alloc | apply Kd.R_drewN | apply Kd.R_drew)); exact HO_0.out⟩, ⟨by repeat (first | (with_reducible first | exact HK.out | apply Kept.alloc | apply Kept.drewN | apply Kept.drew) | exact HK.out)⟩, ⟨by repeat (first | (with_reducible first | exact HB.out | apply below_alloc | apply pw_below_drewN | apply below_drew1) | exact HB.out)⟩⟩
                        rw [if_pos c35] at H
                        have c35b0 : decide (0 < x1_1) = true := decide_eq_true c35
                        clear c35
                        (first | rw [c35b0] | (simp only [i64_w, i32_w]; rw [c35b0]) | skip)
                        obtain ⟨ji36, hji36⟩ : ∃ j_ : Int, (wrap64 (x1_1 - 1)) = j_ := ⟨_, rfl⟩
                        replace H : (if 0 ≤ (ji36) then (if (ji36) < (x0_27.length : Int) then (if 0 ≤ x11_18 then (if x11_18 < (x0_27.length : Int) then ((cmp_Less_int.f (rd x0_27 (ji36)) (rd x0_27 x11_18)).bind fun t610 => (slices_pdqsortOrdered_int.j5 kj27 x0_27 x1_1 x2_1 x3_12 x8_1 x9_1 (wrap64 (x2_1 - x1_1)) x11_18 (!t610))) else (none)) else (none)) else (none)) else (none)) = some r := by first | (rw [hji36] at H; exact H) | (simp only [hji36] at H ⊢; exact H)
                        have hji36w : (IntKind.i64.wrap (x1_1 - 1)) = ji36 := (i64_w _).trans hji36
                        by_cases c37 : 0 ≤ (ji36)
                        rotate_left
                        · rw [if_neg c37] at H
                          exact absurd H (by simp)
                        rw [if_pos c37] at H
                        have c37b0 : decide (0 ≤ (ji36)) = true := decide_eq_true c37
                        clear c37
                        by_cases c38 : (ji36) < (x0_27.length : Int)
                        rotate_left
                        · rw [if_neg c38] at H
                          exact absurd H (by simp)
                        rw [if_pos c38] at H
                        have c38b0 : decide ((ji36) < (x0_27.length : Int)) = true := decide_eq_true c38
                        (try (have c38b0h := c38b0; simp only [hl0_18, hl0_27] at c38b0h))
                        clear c38
                        by_cases c39 : 0 ≤ x11_18
                        rotate_left
                        · rw [if_neg c39] at H
                          exact absurd H (by simp)
                        rw [if_pos c39] at H
                        have c39b0 : decide (0 ≤ x11_18) = true := decide_eq_true c39
                        clear c39
                        by_cases c40 : x11_18 < (x0_27.length : Int)
                        rotate_left
                        · rw [if_neg c40] at H
                          exact absurd H (by simp)
                        rw [if_pos c40] at H
                        have c40b0 : decide (x11_18 < (x0_27.length : Int)) = true := decide_eq_true c40
                        (try (have c40b0h := c40b0; simp only [hl0_18, hl0_27] at c40b0h))
                        clear c40
                        replace H := Option.bind_eq_some_iff.mp H
                        obtain ⟨t610, A410, H⟩ := H
                        replace H : (slices_pdqsortOrdered_int.j5 kj27 x0_27 x1_1 x2_1 x3_12 x8_1 x9_1 (wrap64 (x2_1 - x1_1)) x11_18 (!t610)) = some r := H
                        have A41 := Aside0.mk A410
                        clear A410
                        have H' := Aside0.mk H
                        clear H
                        have p608 : 0 ≤ ((ji36) : Int) := of_decide_eq_true (by first | (with_reducible assumption) | assumption)
                        have q608 : (ji36) < (x0_27.length : Int) := of_decide_eq_true (by first | (with_reducible assumption) | assumption)
                        obtain ⟨ad608, e608, hx608_0⟩ := Kd.at_int (Kd.R_reads' HO_0.out).2.2 (ji36) p608 q608
                        cases e608
                        replace p608 := eq_true p608
                        replace q608 := eq_true q608
                        have p609 : 0 ≤ (x11_18 : Int) := of_decide_eq_true (by first | (with_reducible assumption) | assumption)
                        have q609 : x11_18 < (x0_27.length : Int) := of_decide_eq_true (by first | (with_reducible assumption) | assumption)
                        obtain ⟨ad609, e609, hx609_0⟩ := Kd.at_int (Kd.R_reads' HO_0.out).2.2 x11_18 p609 q609
                        obtain rfl : ad608 = ad609 := (by injection e609)
                        replace p609 := eq_true p609
                        replace q609 := eq_true q609
                        go_wp2_with (first | (go_at_call 55; (with_reducible refine (cmp_Less_int.calls (rd x0_27 (ji36)) (rd x0_27 x11_18) t610 _ A41.out).mono ?_); rintro e w' ⟨rfl, ⟨nd, rfl⟩⟩; (try first | exact ⟨rfl, _, World.drewN_drewN _ _ _⟩ | exact ⟨rfl, _, Eq.trans (World.drewN_drewN _ _ _) (congrArg (World.drewN _) (Nat.add_assoc _ _ _))⟩)))
                        repeat (go_quiet (first | (go_at_call 55; (with_reducible refine (cmp_Less_int.calls (rd x0_27 (ji36)) (rd x0_27 x11_18) t610 _ A41.out).mono ?_); rintro e w' ⟨rfl, ⟨nd, rfl⟩⟩; (try first | exact ⟨rfl, _, World.drewN_drewN _ _ _⟩ | exact ⟨rfl, _, Eq.trans (World.drewN_drewN _ _ _) (congrArg (World.drewN _) (Nat.add_assoc _ _ _))⟩))); try go_wp2_with (first | (go_at_call 55; (with_reducible refine (cmp_Less_int.calls (rd x0_27 (ji36)) (rd x0_27 x11_18) t610 _ A41.out).mono ?_); rintro e w' ⟨rfl, ⟨nd, rfl⟩⟩; (try first | exact ⟨rfl, _, World.drewN_drewN _ _ _⟩ | exact ⟨rfl, _, Eq.trans (World.drewN_drewN _ _ _) (congrArg (World.drewN _) (Nat.add_assoc _ _ _))⟩))))
                        go_meet
                        case rel => exact ⟨_, (!t610), (by first | rfl | (simp; done) | (simp [*]; done)), H', ⟨by have := HK1.out; have := HJ12.out; have := HJ18.out; have := HJ24.out; have := HJ27.out; first | omega | exact Nat.le_refl _⟩, ⟨by (try simp only [hl0_18]); (try simp only [hl0_27]); (with_reducible repeat (first | apply Kd.R_alloc | apply Kd.R_drewN | apply Kd.R_drew)); exact HO_0.out⟩, ⟨by repeat (first | (with_reducible first | exact HK.out | apply Kept.alloc | apply Kept.drewN | apply Kept.drew) | exact HK.out)⟩, ⟨by repeat (first | (with_reducible first | exact HB.out | apply below_alloc | apply pw_below_drewN | apply below_drew1) | exact HB.out)⟩⟩
                      case rest =>
                        clear HC34
                        try clear c1
                        try clear c2
                        try clear p2
                        try clear c3
                        try clear c4
                        try clear c5
                        try clear c5b0
                        try clear p6
                        try clear q6
                        try clear hx6
                        try clear c9
                        try clear c9b0
                        try clear c9b1
                        try clear c14
                        try clear c22
                        try clear c22b0
                        try clear c22b1
                        try clear c26
                        try clear c27
                        try clear c29
                        try clear c31
                        try clear c35
                        try clear c35b0
                        try clear c37
                        try clear c37b0
                        try clear c38
                        try clear c38b0
                        try clear c39
                        try clear c39b0
                        try clear c40
                        try clear c40b0
                        try clear hx608_0
                        try clear hx609_0
                        try clear p2
                        try clear p6
                        try clear p608
                        try clear p609
                        try clear q608
                        try clear q609
                        obtain ⟨kq, x87_33, rfl, HA, HJ33, HO_0, HK, HB⟩ := hcut
                        cases kq with
                        | zero => exact absurd HA.out (by simp [slices_pdqsortOrdered_int.j5])
                        | succ kj33 =>
                          have H := HA.out
                          clear HA
                          simp only [slices_pdqsortOrdered_int.j5] at H
                          by_cases c42 : x87_33 = true
                          · subst c42
                            have H1 : ((slices_partitionEqualOrdered_int.f kj33 x0_27 x1_1 x2_1 x11_18).bind fun bt611 => (slices_pdqsortOrdered_int.l0 kj33 bt611.2 bt611.1 x2_1 x3_12 x8_1 x9_1)) = some r := by rw [if_pos rfl] at H; exact H
                            clear H
                            have H := H1
                            clear H1
                            replace H := Option.bind_eq_some_iff.mp H
                            obtain ⟨⟨t611, t612⟩, A430, H⟩ := H
                            replace H : (slices_pdqsortOrdered_int.l0 kj33 t612 t611 x2_1 x3_12 x8_1 x9_1) = some r := H
                            have A43 := Aside0.mk A430
                            clear A430
                            have H' := Aside0.mk H
                            clear H
                            go_wp2_with (first | (go_at_call 56; (with_reducible refine (slices_partitionEqualOrdered_int.calls kj33 (fun k_ => some k_ = (.slice Ao20 x0_27.length co20 : Value).ownBlock) (.slice Ao20 x0_27.length co20) x0_27 x1_1 x2_1 x11_18 t611 t612 w0 _ ?side1 ?side2 A43.out).mono ?_); (case side1 => repeat (first | (with_reducible first | exact HB.out | apply below_alloc | apply pw_below_drewN | apply below_drew1) | exact HB.out)); (case side2 => exact Kd.R_tight rfl HO_0.out); rintro e w44 ⟨rfl, hy0, hb, hkp⟩; have n0_ := Aside0.mk (Kd.R_reok rfl hy0 (fun k_ e_ => HO_0.out.1 k_ e_)); have n1_ := Aside0.mk (Kept.then_ (S := (fun k_ => P0_ k_)) (by repeat (first | (with_reducible first | exact HK.out | apply Kept.alloc | apply Kept.drewN | apply Kept.drew) | exact HK.out)) hkp (fun k_ hs_ => (fun e_ => (HO_0.out.1 k_ e_.symm)) hs_)); have n2_ := Aside0.mk (hb); clear HO_0; clear HK; clear HB; have HO_0 := n0_; have HK := n1_; have HB := n2_; clear n0_ n1_ n2_; (try clear hb); (try clear hkp); (try clear hy0)))
                            repeat (go_quiet (first | (go_at_call 56; (with_reducible refine (slices_partitionEqualOrdered_int.calls kj33 (fun k_ => some k_ = (.slice Ao20 x0_27.length co20 : Value).ownBlock) (.slice Ao20 x0_27.length co20) x0_27 x1_1 x2_1 x11_18 t611 t612 w0 _ ?side1 ?side2 A43.out).mono ?_); (case side1 => repeat (first | (with_reducible first | exact HB.out | apply below_alloc | apply pw_below_drewN | apply below_drew1) | exact HB.out)); (case side2 => exact Kd.R_tight rfl HO_0.out); rintro e w44 ⟨rfl, hy0, hb, hkp⟩; have n0_ := Aside0.mk (Kd.R_reok rfl hy0 (fun k_ e_ => HO_0.out.1 k_ e_)); have n1_ := Aside0.mk (Kept.then_ (S := (fun k_ => P0_ k_)) (by repeat (first | (with_reducible first | exact HK.out | apply Kept.alloc | apply Kept.drewN | apply Kept.drew) | exact HK.out)) hkp (fun k_ hs_ => (fun e_ => (HO_0.out.1 k_ e_.symm)) hs_)); have n2_ := Aside0.mk (hb); clear HO_0; clear HK; clear HB; have HO_0 := n0_; have HK := n1_; have HB := n2_; clear n0_ n1_ n2_; (try clear hb); (try clear hkp); (try clear hy0))); try go_wp2_with (first | (go_at_call 56; (with_reducible refine (slices_partitionEqualOrdered_int.calls kj33 (fun k_ => some k_ = (.slice Ao20 x0_27.length co20 : Value).ownBlock) (.slice Ao20 x0_27.length co20) x0_27 x1_1 x2_1 x11_18 t611 t612 w0 _ ?side1 ?side2 A43.out).mono ?_); (case side1 => repeat (first | (with_reducible first | exact HB.out | apply below_alloc | apply pw_below_drewN | apply below_drew1) | exact HB.out)); (case side2 => exact Kd.R_tight rfl HO_0.out); rintro e w44 ⟨rfl, hy0, hb, hkp⟩; have n0_ := Aside0.mk (Kd.R_reok rfl hy0 (fun k_ e_ => HO_0.out.1 k_ e_)); have n1_ := Aside0.mk (Kept.then_ (S := (fun k_ => P0_ k_)) (by repeat (first | (with_reducible first | exact HK.out | apply Kept.alloc | apply Kept.drewN | apply Kept.drew) | exact HK.out)) hkp (fun k_ hs_ => (fun e_ => (HO_0.out.1 k_ e_.symm)) hs_)); have n2_ := Aside0.mk (hb); clear HO_0; clear HK; clear HB; have HO_0 := n0_; have HK := n1_; have HB := n2_; clear n0_ n1_ n2_; (try clear hb); (try clear hkp); (try clear hy0))))
                            (try simp only [← hl0_18, ← hl0_27])
                            go_roundg kj33
                            case measure => have := HK1.out; have := HJ12.out; have := HJ18.out; have := HJ24.out; have := HJ27.out; have := HJ33.out; omega
                            case rel => exact ⟨(t612), (t611), (x2_1), (x3_12), (x8_1), (x9_1), (by first | rfl | (simp; done) | (simp [*]; done)), (by first | rfl | (simp; done) | (simp [*]; done)), (by first | rfl | (simp; done) | (simp [*]; done)), (by first | rfl | (simp; done) | (simp [*]; done)), (by first | rfl | (simp; done) | (simp [*]; done)), H', ⟨by have := HK1.out; have := HJ12.out; have := HJ18.out; have := HJ24.out; have := HJ27.out; have := HJ33.out; omega⟩, ⟨by (try simp only [hl0_18]); (try simp only [hl0_27]); (with_reducible repeat (first | apply Kd.R_alloc | apply Kd.R_drewN | apply Kd.R_drew)); exact HO_0.out⟩, ⟨by repeat (first | (with_reducible first | exact HK.out | apply Kept.alloc | apply Kept.drewN | apply Kept.drew) | exact HK.out)⟩, ⟨by repeat (first | (with_reducible first | exact HB.out | apply below_alloc | apply pw_below_drewN | apply below_drew1) | exact HB.out)⟩⟩
                          replace c42 := Bool.eq_false_iff.mpr c42
                          subst c42
                          have H1 : ((slices_partitionOrdered_int.f kj33 x0_27 x1_1 x2_1 x11_18).bind fun bt613 => (if (wrap64 (bt613.1 - x1_1)) < (wrap64 (x2_1 - bt613.1)) then ((slices_pdqsortOrdered_int.f kj33 bt613.2.2 x1_1 bt613.1 x3_12).bind fun t616 => (slices_pdqsortOrdered_int.l0 kj33 t616 (wrap64 (bt613.1 + 1)) x2_1 x3_12 (decide ((wrap64 (bt613.1 - x1_1)) ≥ (wrap64 (Int.tdiv (wrap64 (x2_1 - x1_1)) 8)))) bt613.2.1)) else ((slices_pdqsortOrdered_int.f kj33 bt613.2.2 (wrap64 (bt613.1 + 1)) x2_1 x3_12).bind fun t617 => (slices_pdqsortOrdered_int.l0 kj33 t617 x1_1 bt613.1 x3_12 (decide ((wrap64 (x2_1 - bt613.1)) ≥ (wrap64 (Int.tdiv (wrap64 (x2_1 - x1_1)) 8)))) bt613.2.1)))) = some r := by rw [if_neg (show ¬ (false = true) by decide)] at H; exact H
                          clear H
                          have H := H1
                          clear H1
                          replace H := Option.bind_eq_some_iff.mp H
                          obtain ⟨⟨t613, t614, t615⟩, A450, H⟩ := H
                          replace H : (if (wrap64 (t613 - x1_1)) < (wrap64 (x2_1 - t613)) then ((slices_pdqsortOrdered_int.f kj33 t615 x1_1 t613 x3_12).bind fun t616 => (slices_pdqsortOrdered_int.l0 kj33 t616 (wrap64 (t613 + 1)) x2_1 x3_12 (decide ((wrap64 (t613 - x1_1)) ≥ (wrap64 (Int.tdiv (wrap64 (x2_1 - x1_1)) 8)))) t614)) else ((slices_pdqsortOrdered_int.f kj33 t615 (wrap64 (t613 + 1)) x2_1 x3_12).bind fun t617 => (slices_pdqsortOrdered_int.l0 kj33 t617 x1_1 t613 x3_12 (decide ((wrap64 (x2_1 - t613)) ≥ (wrap64 (Int.tdiv (wrap64 (x2_1 - x1_1)) 8)))) t614))) = some r := H
                          have A45 := Aside0.mk A450
                          clear A450
                          by_cases c46 : (wrap64 (t613 - x1_1)) < (wrap64 (x2_1 - t613))
                          · rw [if_pos c46] at H
                            have c46b0 : decide ((wrap64 (t613 - x1_1)) < (wrap64 (x2_1 - t613))) = true := decide_eq_true c46
                            clear c46
                            replace H := Option.bind_eq_some_iff.mp H
                            obtain ⟨t616, A470, H⟩ := H
                            replace H : (slices_pdqsortOrdered_int.l0 kj33 t616 (wrap64 (t613 + 1)) x2_1 x3_12 (decide ((wrap64 (t613 - x1_1)) ≥ (wrap64 (Int.tdiv (wrap64 (x2_1 - x1_1)) 8)))) t614) = some r := H
                            have A47 := Aside0.mk A470
                            clear A470
                            have H' := Aside0.mk H
                            clear H
                            go_wp2_with (first | (go_at_call 57; (with_reducible refine (slices_partitionOrdered_int.calls kj33 (fun k_ => some k_ = (.slice Ao20 x0_27.length co20 : Value).ownBlock) (.slice Ao20 x0_27.length co20) x0_27 x1_1 x2_1 x11_18 t613 t614 t615 w0 _ ?side1 ?side2 A45.out).mono ?_); (case side1 => repeat (first | (with_reducible first | exact HB.out | apply below_alloc | apply pw_below_drewN | apply below_drew1) | exact HB.out)); (case side2 => exact Kd.R_tight rfl HO_0.out); rintro e w48 ⟨rfl, hy0, hb, hkp⟩; have n0_ := Aside0.mk (Kd.R_reok rfl hy0 (fun k_ e_ => HO_0.out.1 k_ e_)); have n1_ := Aside0.mk (Kept.then_ (S := (fun k_ => P0_ k_)) (by repeat (first | (with_reducible first | exact HK.out | apply Kept.alloc | apply Kept.drewN | apply Kept.drew) | exact HK.out)) hkp (fun k_ hs_ => (fun e_ => (HO_0.out.1 k_ e_.symm)) hs_)); have n2_ := Aside0.mk (hb); clear HO_0; clear HK; clear HB; have HO_0 := n0_; have HK := n1_; have HB := n2_; clear n0_ n1_ n2_; (try clear hb); (try clear hkp); (try clear hy0)) | (go_at_call 45; (with_reducible refine (ih kj33 (by have := HK1.out; have := HJ12.out; have := HJ18.out; have := HJ24.out; have := HJ27.out; have := HJ33.out; omega) (fun k_ => some k_ = (.slice Ao20 x0_27.length co20 : Value).ownBlock) (.slice Ao20 x0_27.length co20) t615 x1_1 t613 x3_12 t616 w0 _ ?side1 ?side2 A47.out).mono ?_); (case side1 => repeat (first | (with_reducible first | exact HB.out | apply below_alloc | apply pw_below_drewN | apply below_drew1) | exact HB.out)); (case side2 => exact Kd.R_tight rfl HO_0.out); rintro e w49 ⟨rfl, hy0, hb, hkp⟩; have n0_ := Aside0.mk (Kd.R_reok rfl hy0 (fun k_ e_ => HO_0.out.1 k_ e_)); have n1_ := Aside0.mk (Kept.then_ (S := (fun k_ => P0_ k_)) (by repeat (first | (with_reducible first | exact HK.out | apply Kept.alloc | apply Kept.drewN | apply Kept.drew) | exact HK.out)) hkp (fun k_ hs_ => (fun e_ => (HO_0.out.1 k_ e_.symm)) hs_)); have n2_ := Aside0.mk (hb); clear HO_0; clear HK; clear HB; have HO_0 := n0_; have HK := n1_; have HB := n2_; clear n0_ n1_ n2_; (try clear hb); (try clear hkp); (try clear hy0)))
                            repeat (go_quiet (first | (go_at_call 57; (with_reducible refine (slices_partitionOrdered_int.calls kj33 (fun k_ => some k_ = (.slice Ao20 x0_27.length co20 : Value).ownBlock) (.slice Ao20 x0_27.length co20) x0_27 x1_1 x2_1 x11_18 t613 t614 t615 w0 _ ?side1 ?side2 A45.out).mono ?_); (case side1 => repeat (first | (with_reducible first | exact HB.out | apply below_alloc | apply pw_below_drewN | apply below_drew1) | exact HB.out)); (case side2 => exact Kd.R_tight rfl HO_0.out); rintro e w48 ⟨rfl, hy0, hb, hkp⟩; have n0_ := Aside0.mk (Kd.R_reok rfl hy0 (fun k_ e_ => HO_0.out.1 k_ e_)); have n1_ := Aside0.mk (Kept.then_ (S := (fun k_ => P0_ k_)) (by repeat (first | (with_reducible first | exact HK.out | apply Kept.alloc | apply Kept.drewN | apply Kept.drew) | exact HK.out)) hkp (fun k_ hs_ => (fun e_ => (HO_0.out.1 k_ e_.symm)) hs_)); have n2_ := Aside0.mk (hb); clear HO_0; clear HK; clear HB; have HO_0 := n0_; have HK := n1_; have HB := n2_; clear n0_ n1_ n2_; (try clear hb); (try clear hkp); (try clear hy0)) | (go_at_call 45; (with_reducible refine (ih kj33 (by have := HK1.out; have := HJ12.out; have := HJ18.out; have := HJ24.out; have := HJ27.out; have := HJ33.out; omega) (fun k_ => some k_ = (.slice Ao20 x0_27.length co20 : Value).ownBlock) (.slice Ao20 x0_27.length co20) t615 x1_1 t613 x3_12 t616 w0 _ ?side1 ?side2 A47.out).mono ?_); (case side1 => repeat (first | (with_reducible first | exact HB.out | apply below_alloc | apply pw_below_drewN | apply below_drew1) | exact HB.out)); (case side2 => exact Kd.R_tight rfl HO_0.out); rintro e w49 ⟨rfl, hy0, hb, hkp⟩; have n0_ := Aside0.mk (Kd.R_reok rfl hy0 (fun k_ e_ => HO_0.out.1 k_ e_)); have n1_ := Aside0.mk (Kept.then_ (S := (fun k_ => P0_ k_)) (by repeat (first | (with_reducible first | exact HK.out | apply Kept.alloc | apply Kept.drewN | apply Kept.drew) | exact HK.out)) hkp (fun k_ hs_ => (fun e_ => (HO_0.out.1 k_ e_.symm)) hs_)); have n2_ := Aside0.mk (hb); clear HO_0; clear HK; clear HB; have HO_0 := n0_; have HK := n1_; have HB := n2_; clear n0_ n1_ n2_; (try clear hb); (try clear hkp); (try clear hy0))); try go_wp2_with (first | (go_at_call 57; (with_reducible refine (slices_partitionOrdered_int.calls kj33 (fun k_ => some k_ = (.slice Ao20 x0_27.length co20 : Value).ownBlock) (.slice Ao20 x0_27.length co20) x0_27 x1_1 x2_1 x11_18 t613 t614 t615 w0 _ ?side1 ?side2 A45.out).mono ?_); (case side1 => repeat (first | (with_reducible first | exact HB.out | apply below_alloc | apply pw_below_drewN | apply below_drew1) | exact HB.out)); (case side2 => exact Kd.R_tight rfl HO_0.out); rintro e w48 ⟨rfl, hy0, hb, hkp⟩; have n0_ := Aside0.mk (Kd.R_reok rfl hy0 (fun k_ e_ => HO_0.out.1 k_ e_)); have n1_ := Aside0.mk (Kept.then_ (S := (fun k_ => P0_ k_)) (by repeat (first | (with_reducible first | exact HK.out | apply Kept.alloc | apply Kept.drewN | apply Kept.drew) | exact HK.out)) hkp (fun k_ hs_ => (fun e_ => (HO_0.out.1 k_ e_.symm)) hs_)); have n2_ := Aside0.mk (hb); clear HO_0; clear HK; clear HB; have HO_0 := n0_; have HK := n1_; have HB := n2_; clear n0_ n1_ n2_; (try clear hb); (try clear hkp); (try clear hy0)) | (go_at_call 45; (with_reducible refine (ih kj33 (by have := HK1.out; have := HJ12.out; have := HJ18.out; have := HJ24.out; have := HJ27.out; have := HJ33.out; omega) (fun k_ => some k_ = (.slice Ao20 x0_27.length co20 : Value).ownBlock) (.slice Ao20 x0_27.length co20) t615 x1_1 t613 x3_12 t616 w0 _ ?side1 ?side2 A47.out).mono ?_); (case side1 => repeat (first | (with_reducible first | exact HB.out | apply below_alloc | apply pw_below_drewN | apply below_drew1) | exact HB.out)); (case side2 => exact Kd.R_tight rfl HO_0.out); rintro e w49 ⟨rfl, hy0, hb, hkp⟩; have n0_ := Aside0.mk (Kd.R_reok rfl hy0 (fun k_ e_ => HO_0.out.1 k_ e_)); have n1_ := Aside0.mk (Kept.then_ (S := (fun k_ => P0_ k_)) (by repeat (first | (with_reducible first | exact HK.out | apply Kept.alloc | apply Kept.drewN | apply Kept.drew) | exact HK.out)) hkp (fun k_ hs_ => (fun e_ => (HO_0.out.1 k_ e_.symm)) hs_)); have n2_ := Aside0.mk (hb); clear HO_0; clear HK; clear HB; have HO_0 := n0_; have HK := n1_; have HB := n2_; clear n0_ n1_ n2_; (try clear hb); (try clear hkp); (try clear hy0))))
                            (try simp only [← hl0_18, ← hl0_27])
                            go_roundg kj33
                            case measure => have := HK1.out; have := HJ12.out; have := HJ18.out; have := HJ24.out; have := HJ27.out; have := HJ33.out; omega
                            case rel => exact ⟨(t616), (wrap64 (t613 + 1)), (x2_1), (x3_12), (decide ((wrap64 (t613 - x1_1)) ≥ (wrap64 (Int.tdiv (wrap64 (x2_1 - x1_1)) 8)))), (t614), (by first | rfl | (simp; done) | (simp [*]; done)), (by first | rfl | (simp; done) | (simp [*]; done)), (by first | rfl | (simp; done) | (simp [*]; done)), (by first | rfl | (simp; done) | (simp [*]; done)), (by first | rfl | (simp; done) | (simp [*]; done)), H', ⟨by have := HK1.out; have := HJ12.out; have := HJ18.out; have := HJ24.out; have := HJ27.out; have := HJ33.out; omega⟩, ⟨by (try simp only [hl0_18]); (try simp only [hl0_27]); (with_reducible repeat (first | apply Kd.R_alloc | apply Kd.R_drewN | apply Kd.R_drew)); exact HO_0.out⟩, ⟨by repeat (first | (with_reducible first | exact HK.out | apply Kept.alloc | apply Kept.drewN | apply Kept.drew) | exact HK.out)⟩, ⟨by repeat (first | (with_reducible first | exact HB.out | apply below_alloc | apply pw_below_drewN | apply below_drew1) | exact HB.out)⟩⟩
                          rw [if_neg c46] at H
                          have c46b0 : decide ((wrap64 (t613 - x1_1)) < (wrap64 (x2_1 - t613))) = false := decide_eq_false c46
                          clear c46
                          replace H := Option.bind_eq_some_iff.mp H
                          obtain ⟨t617, A500, H⟩ := H
                          replace H : (slices_pdqsortOrdered_int.l0 kj33 t617 x1_1 t613 x3_12 (decide ((wrap64 (x2_1 - t613)) ≥ (wrap64 (Int.tdiv (wrap64 (x2_1 - x1_1)) 8)))) t614) = some r := H
                          have A50 := Aside0.mk A500
                          clear A500
                          have H' := Aside0.mk H
                          clear H
                          go_wp2_with (first | (go_at_call 57; (with_reducible refine (slices_partitionOrdered_int.calls kj33 (fun k_ => some k_ = (.slice Ao20 x0_27.length co20 : Value).ownBlock) (.slice Ao20 x0_27.length co20) x0_27 x1_1 x2_1 x11_18 t613 t614 t615 w0 _ ?side1 ?side2 A45.out).mono ?_); (case side1 => repeat (first | (with_reducible first | exact HB.out | apply below_alloc | apply pw_below_drewN | apply below_drew1) | exact HB.out)); (case side2 => exact Kd.R_tight rfl HO_0.out); rintro e w51 ⟨rfl, hy0, hb, hkp⟩; have n0_ := Aside0.mk (Kd.R_reok rfl hy0 (fun k_ e_ => HO_0.out.1 k_ e_)); have n1_ := Aside0.mk (Kept.then_ (S := (fun k_ => P0_ k_)) (by repeat (first | (with_reducible first | exact HK.out | apply Kept.alloc | apply Kept.drewN | apply Kept.drew) | exact HK.out)) hkp (fun k_ hs_ => (fun e_ => (HO_0.out.1 k_ e_.symm)) hs_)); have n2_ := Aside0.mk (hb); clear HO_0; clear HK; clear HB; have HO_0 := n0_; have HK := n1_; have HB := n2_; clear n0_ n1_ n2_; (try clear hb); (try clear hkp); (try clear hy0)) | (go_at_call 45; (with_reducible refine (ih kj33 (by have := HK1.out; have := HJ12.out; have := HJ18.out; have := HJ24.out; have := HJ27.out; have := HJ33.out; omega) (fun k_ => some k_ = (.slice Ao20 x0_27.length co20 : Value).ownBlock) (.slice Ao20 x0_27.length co20) t615 (wrap64 (t613 + 1)) x2_1 x3_12 t617 w0 _ ?side1 ?side2 A50.out).mono ?_); (case side1 => repeat (first | (with_reducible first | exact HB.out | apply below_alloc | apply pw_below_drewN | apply below_drew1) | exact HB.out)); (case side2 => exact Kd.R_tight rfl HO_0.out); rintro e w52 ⟨rfl, hy0, hb, hkp⟩; have n0_ := Aside0.mk (Kd.R_reok rfl hy0 (fun k_ e_ => HO_0.out.1 k_ e_)); have n1_ := Aside0.mk (Kept.then_ (S := (fun k_ => P0_ k_)) (by repeat (first | (with_reducible first | exact HK.out | apply Kept.alloc | apply Kept.drewN | apply Kept.drew) | exact HK.out)) hkp (fun k_ hs_ => (fun e_ => (HO_0.out.1 k_ e_.symm)) hs_)); have n2_ := Aside0.mk (hb); clear HO_0; clear HK; clear HB; have HO_0 := n0_; have HK := n1_; have HB := n2_; clear n0_ n1_ n2_; (try clear hb); (try clear hkp); (try clear hy0)))
                          repeat (go_quiet (first | (go_at_call 57; (with_reducible refine (slices_partitionOrdered_int.calls kj33 (fun k_ => some k_ = (.slice Ao20 x0_27.length co20 : Value).ownBlock) (.slice Ao20 x0_27.length co20) x0_27 x1_1 x2_1 x11_18 t613 t614 t615 w0 _ ?side1 ?side2 A45.out).mono ?_); (case side1 => repeat (first | (with_reducible first | exact HB.out | apply below_alloc | apply pw_below_drewN | apply below_drew1) | exact HB.out)); (case side2 => exact Kd.R_tight rfl HO_0.out); rintro e w51 ⟨rfl, hy0, hb, hkp⟩; have n0_ := Aside0.mk (Kd.R_reok rfl hy0 (fun k_ e_ => HO_0.out.1 k_ e_)); have n1_ := Aside0.mk (Kept.then_ (S := (fun k_ => P0_ k_)) (by repeat (first | (with_reducible first | exact HK.out | apply Kept.alloc | apply Kept.drewN | apply Kept.drew) | exact HK.out)) hkp (fun k_ hs_ => (fun e_ => (HO_0.out.1 k_ e_.symm)) hs_)); have n2_ := Aside0.mk (hb); clear HO_0; clear HK; clear HB; have HO_0 := n0_; have HK := n1_; have HB := n2_; clear n0_ n1_ n2_; (try clear hb); (try clear hkp); (try clear hy0)) | (go_at_call 45; (with_reducible refine (ih kj33 (by have := HK1.out; have := HJ12.out; have := HJ18.out; have := HJ24.out; have := HJ27.out; have := HJ33.out; omega) (fun k_ => some k_ = (.slice Ao20 x0_27.length co20 : Value).ownBlock) (.slice Ao20 x0_27.length co20) t615 (wrap64 (t613 + 1)) x2_1 x3_12 t617 w0 _ ?side1 ?side2 A50.out).mono ?_); (case side1 => repeat (first | (with_reducible first | exact HB.out | apply below_alloc | apply pw_below_drewN | apply below_drew1) | exact HB.out)); (case side2 => exact Kd.R_tight rfl HO_0.out); rintro e w52 ⟨rfl, hy0, hb, hkp⟩; have n0_ := Aside0.mk (Kd.R_reok rfl hy0 (fun k_ e_ => HO_0.out.1 k_ e_)); have n1_ := Aside0.mk (Kept.then_ (S := (fun k_ => P0_ k_)) (by repeat (first | (with_reducible first | exact HK.out | apply Kept.alloc | apply Kept.drewN | apply Kept.drew) | exact HK.out)) hkp (fun k_ hs_ => (fun e_ => (HO_0.out.1 k_ e_.symm)) hs_)); have n2_ := Aside0.mk (hb); clear HO_0; clear HK; clear HB; have HO_0 := n0_; have HK := n1_; have HB := n2_; clear n0_ n1_ n2_; (try clear hb); (try clear hkp); (try clear hy0))); try go_wp2_with (first | (go_at_call 57; (with_reducible refine (slices_partitionOrdered_int.calls kj33 (fun k_ => some k_ = (.slice Ao20 x0_27.length co20 : Value).ownBlock) (.slice Ao20 x0_27.length co20) x0_27 x1_1 x2_1 x11_18 t613 t614 t615 w0 _ ?side1 ?side2 A45.out).mono ?_); (case side1 => repeat (first | (with_reducible first | exact HB.out | apply below_alloc | apply pw_below_drewN | apply below_drew1) | exact HB.out)); (case side2 => exact Kd.R_tight rfl HO_0.out); rintro e w51 ⟨rfl, hy0, hb, hkp⟩; have n0_ := Aside0.mk (Kd.R_reok rfl hy0 (fun k_ e_ => HO_0.out.1 k_ e_)); have n1_ := Aside0.mk (Kept.then_ (S := (fun k_ => P0_ k_)) (by repeat (first | (with_reducible first | exact HK.out | apply Kept.alloc | apply Kept.drewN | apply Kept.drew) | exact HK.out)) hkp (fun k_ hs_ => (fun e_ => (HO_0.out.1 k_ e_.symm)) hs_)); have n2_ := Aside0.mk (hb); clear HO_0; clear HK; clear HB; have HO_0 := n0_; have HK := n1_; have HB := n2_; clear n0_ n1_ n2_; (try clear hb); (try clear hkp); (try clear hy0)) | (go_at_call 45; (with_reducible refine (ih kj33 (by have := HK1.out; have := HJ12.out; have := HJ18.out; have := HJ24.out; have := HJ27.out; have := HJ33.out; omega) (fun k_ => some k_ = (.slice Ao20 x0_27.length co20 : Value).ownBlock) (.slice Ao20 x0_27.length co20) t615 (wrap64 (t613 + 1)) x2_1 x3_12 t617 w0 _ ?side1 ?side2 A50.out).mono ?_); (case side1 => repeat (first | (with_reducible first | exact HB.out | apply below_alloc | apply pw_below_drewN | apply below_drew1) | exact HB.out)); (case side2 => exact Kd.R_tight rfl HO_0.out); rintro e w52 ⟨rfl, hy0, hb, hkp⟩; have n0_ := Aside0.mk (Kd.R_reok rfl hy0 (fun k_ e_ => HO_0.out.1 k_ e_)); have n1_ := Aside0.mk (Kept.then_ (S := (fun k_ => P0_ k_)) (by repeat (first | (with_reducible first | exact HK.out | apply Kept.alloc | apply Kept.drewN | apply Kept.drew) | exact HK.out)) hkp (fun k_ hs_ => (fun e_ => (HO_0.out.1 k_ e_.symm)) hs_)); have n2_ := Aside0.mk (hb); clear HO_0; clear HK; clear HB; have HO_0 := n0_; have HK := n1_; have HB := n2_; clear n0_ n1_ n2_; (try clear hb); (try clear hkp); (try clear hy0))))
                          (try simp only [← hl0_18, ← hl0_27])
                          go_roundg kj33
                          case measure => have := HK1.out; have := HJ12.out; have := HJ18.out; have := HJ24.out; have := HJ27.out; have := HJ33.out; omega
                          case rel => exact ⟨(t617), (x1_1), (t613), (x3_12), (decide ((wrap64 (x2_1 - t613)) ≥ (wrap64 (Int.tdiv (wrap64 (x2_1 - x1_1)) 8)))), (t614), (by first | rfl | (simp; done) | (simp [*]; done)), (by first | rfl | (simp; done) | (simp [*]; done)), (by first | rfl | (simp; done) | (simp [*]; done)), (by first | rfl | (simp; done) | (simp [*]; done)), (by first | rfl | (simp; done) | (simp [*]; done)), H', ⟨by have := HK1.out; have := HJ12.out; have := HJ18.out; have := HJ24.out; have := HJ27.out; have := HJ33.out; omega⟩, ⟨by (try simp only [hl0_18]); (try simp only [hl0_27]); (with_reducible repeat (first | apply Kd.R_alloc | apply Kd.R_drewN | apply Kd.R_drew)); exact HO_0.out⟩, ⟨by repeat (first | (with_reducible first | exact HK.out | apply Kept.alloc | apply Kept.drewN | apply Kept.drew) | exact HK.out)⟩, ⟨by repeat (first | (with_reducible first | exact HB.out | apply below_alloc | apply pw_below_drewN | apply below_drew1) | exact HB.out)⟩⟩
end Go.Proofs.Ytklapbgajghhcaa.G
end
