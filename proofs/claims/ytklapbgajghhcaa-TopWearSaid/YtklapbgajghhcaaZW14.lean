/- Functions of the seat and plain laws about them: GF3D. -/
import Derived.Test.YtklapbgajghhcaaGBase
import Derived.Test.YtklapbgajghhcaaZW0
import Derived.Test.YtklapbgajghhcaaZW2
import Derived.Test.YtklapbgajghhcaaZW13
import Derived.Test.YtklapbgajghhcaaZW6
import Derived.Test.YtklapbgajghhcaaZW7
import Derived.Test.YtklapbgajghhcaaZW8
import Derived.Test.YtklapbgajghhcaaZW9
import Derived.Test.YtklapbgajghhcaaZW10
import Derived.Test.YtklapbgajghhcaaZW11
import Derived.Test.YtklapbgajghhcaaZW12
section
namespace Go.Proofs.Ytklapbgajghhcaa.G
open Go.RowKit Go.Proofs.YtklapbgajghhcaaW.PrintWords Go.Proofs.YtklapbgajghhcaaW.PrintLast Go.Proofs.YtklapbgajghhcaaW.PrintMore
attribute [local go_sem] max2_int min2_int max_two min_two max_three min_three max_four min_four
set_option linter.unusedVariables false
set_option linter.unusedSimpArgs false
attribute [local go_sem high] eqA35
mutual
def droppertop_TopWear.j0 : Nat → List Int → List (S35) → Bool → Option (Bool)
  | 0, _, _, _ => none
  | k + 1, x0, x1, x32 => if x32 = true then ((dropperlaw07_First.f k).bind fun t602 => (some t602)) else ((wear_Nearest.f k x0).bind fun bt603 => ((wear_Blocks.f k x0).bind fun bt607 => (if bt603.2 = 0 then (if bt607.2 = 0 then ((dropperref07_IsRow.f k x0 bt603.1).bind fun t611 => (if t611 = true then (if (bt607.1.length : Int) = 0 then (droppertop_TopWear.j1 k x0 x1 bt603.1 bt607.1 true) else (if 0 < (bt607.1.length : Int) then (droppertop_TopWear.j1 k x0 x1 bt603.1 bt607.1 ((rd bt607.1 0) != 0)) else (none))) else (droppertop_TopWear.j1 k x0 x1 bt603.1 bt607.1 true))) else (droppertop_TopWear.j1 k x0 x1 bt603.1 bt607.1 true)) else (droppertop_TopWear.j1 k x0 x1 bt603.1 bt607.1 true))))
def droppertop_TopWear.j1 : Nat → List Int → List (S35) → List (S35) → List Int → Bool → Option (Bool)
  | 0, _, _, _, _, _ => none
  | k + 1, x0, x1, x5, x7, x66 => if x66 = true then (some false) else ((wear_Grows.f k x0 x5).bind fun bt613 => (if bt613.2 = 0 then (droppertop_TopWear.j2 k x0 x1 x5 x7 (!bt613.1)) else (droppertop_TopWear.j2 k x0 x1 x5 x7 true)))
def droppertop_TopWear.j2 : Nat → List Int → List (S35) → List (S35) → List Int → Bool → Option (Bool)
  | 0, _, _, _, _, _ => none
  | k + 1, x0, x1, x5, x7, x78 => if x78 = true then (some false) else (droppertop_TopWear.l0 k x0 x1 x5 x7 0)
def droppertop_TopWear.l0 : Nat → List Int → List (S35) → List (S35) → List Int → Int → Option (Bool)
  | 0, _, _, _, _, _ => none
  | k + 1, x0, x1, x5, x7, x11 => if x11 < (x0.length : Int) then ((wear_Between.f k x0 x11).bind fun bt615 => (if bt615.2.2 = 0 then (if 0 ≤ x11 then (if x11 < (x5.length : Int) then (if (!(bt615.1 == ((rd_T35 x5 x11).f0)) || (!(bt615.2.1 == ((rd_T35 x5 x11).f1)))) = true then (some false) else (droppertop_TopWear.l0 k x0 x1 x5 x7 (wrap64 (x11 + 1)))) else (none)) else (none)) else (some false))) else (droppertop_TopWear.l1 k x0 x1 x5 x7 0 0)
def droppertop_TopWear.l1 : Nat → List Int → List (S35) → List (S35) → List Int → Int → Int → Option (Bool)
  | 0, _, _, _, _, _, _ => none
  | k + 1, x0, x1, x5, x7, x14, x15 => if x15 < (x7.length : Int) then (if (wrap64 (x15 + 1)) < (x7.length : Int) then (if 0 ≤ (wrap64 (x15 + 1)) then (droppertop_TopWear.j5 k x0 x1 x5 x7 x14 x15 (rd x7 (wrap64 (x15 + 1)))) else (none)) else (droppertop_TopWear.j5 k x0 x1 x5 x7 x14 x15 (x0.length : Int))) else (droppertop_TopWear.l2 k x0 x1 x5 x7 x14 0)
def droppertop_TopWear.j5 : Nat → List Int → List (S35) → List (S35) → List Int → Int → Int → Int → Option (Bool)
  | 0, _, _, _, _, _, _, _ => none
  | k + 1, x0, x1, x5, x7, x14, x15, x16 => if 0 ≤ x15 then (if x15 < (x7.length : Int) then (if (rd x7 x15) < 0 then (droppertop_TopWear.j6 k x0 x1 x5 x7 x14 x15 x16 true) else (if x16 ≤ (rd x7 x15) then (droppertop_TopWear.j6 k x0 x1 x5 x7 x14 x15 x16 true) else (droppertop_TopWear.j6 k x0 x1 x5 x7 x14 x15 x16 (decide (x16 > (x0.length : Int)))))) else (none)) else (none)
def droppertop_TopWear.j6 : Nat → List Int → List (S35) → List (S35) → List Int → Int → Int → Int → Bool → Option (Bool)
  | 0, _, _, _, _, _, _, _, _ => none
  | k + 1, x0, x1, x5, x7, x14, x15, x16, x137 => if x137 = true then (some false) else (if 0 ≤ x15 then (if x15 < (x7.length : Int) then ((wear_Mean.f k x0 (rd x7 x15) (wrap64 (x16 - 1))).bind fun bt624 => (if bt624.2.2 = 0 then (if 0 ≤ (rd x7 x15) then (if (rd x7 x15) < (x5.length : Int) then (if (!(bt624.1 == ((rd_T35 x5 (rd x7 x15)).f0)) || (!(bt624.2.1 == ((rd_T35 x5 (rd x7 x15)).f1)))) = true then (some false) else (if 0 ≤ (wrap64 (x16 - 1)) then (if (wrap64 (x16 - 1)) < (x5.length : Int) then (if (!(((rd_T35 x5 (wrap64 (x16 - 1))).f0) == bt624.1) || (!(((rd_T35 x5 (wrap64 (x16 - 1))).f1) == bt624.2.1))) = true then (some false) else (if bt624.2.1 < 1 then (some false) else (if bt624.2.1 = 0 then (none) else (if (Int.tmod (wrap64 (x16 - (rd x7 x15))) bt624.2.1) = 0 then (droppertop_TopWear.l1 k x0 x1 x5 x7 (wrap64 (x14 + (wrap64 (bt624.1 * (wrap64 (Int.tdiv (wrap64 (x16 - (rd x7 x15))) bt624.2.1)))))) (wrap64 (x15 + 1))) else (some false))))) else (none)) else (none))) else (none)) else (none)) else (some false))) else (none)) else (none))
def droppertop_TopWear.l2 : Nat → List Int → List (S35) → List (S35) → List Int → Int → Int → Option (Bool)
  | 0, _, _, _, _, _, _ => none
  | k + 1, x0, x1, x5, x7, x14, x19 => if x19 < (x0.length : Int) then (if 0 ≤ x19 then (droppertop_TopWear.l2 k x0 x1 x5 x7 (wrap64 (x14 - (rd x0 x19))) (wrap64 (x19 + 1))) else (none)) else ((wear_Falls.f k x0).bind fun bt634 => (if bt634.2 = 0 then (droppertop_TopWear.j8 k x0 x1 x5 x7 bt634.1 (x14 != 0)) else (droppertop_TopWear.j8 k x0 x1 x5 x7 bt634.1 true)))
def droppertop_TopWear.j8 : Nat → List Int → List (S35) → List (S35) → List Int → Int → Bool → Option (Bool)
  | 0, _, _, _, _, _, _ => none
  | k + 1, x0, x1, x5, x7, x20, x224 => if x224 = true then (some false) else (if x20 = 0 then (droppertop_TopWear.j9 k x0 x1 x5 (decide ((x7.length : Int) > 0))) else (droppertop_TopWear.j9 k x0 x1 x5 false))
def droppertop_TopWear.j9 : Nat → List Int → List (S35) → List (S35) → Bool → Option (Bool)
  | 0, _, _, _, _ => none
  | k + 1, x0, x1, x5, x231 => if x231 = true then (droppertop_TopWear.l3 k x0 x1 x5 0) else (droppertop_TopWear.j11 k x0 x1 x5)
def droppertop_TopWear.j11 : Nat → List Int → List (S35) → List (S35) → Option (Bool)
  | 0, _, _, _ => none
  | k + 1, x0, x1, x5 => (dropperref07_Grows.f k x0 x1).bind fun bt638 => (if bt638.2 = 0 then (droppertop_TopWear.j12 k x0 x1 x5 (!bt638.1)) else (droppertop_TopWear.j12 k x0 x1 x5 true))
def droppertop_TopWear.j12 : Nat → List Int → List (S35) → List (S35) → Bool → Option (Bool)
  | 0, _, _, _, _ => none
  | k + 1, x0, x1, x5, x259 => if x259 = true then ((dropperlaw07_First.f k).bind fun t640 => (some t640)) else ((wear_Error.f k x0 x5).bind fun bt641 => ((dropperref07_Error.f k x0 x1).bind fun bt645 => (if bt641.2.2 = 0 then (droppertop_TopWear.j13 k bt641.2.2 (bt645.2.2 != 0) bt641.1 bt641.2.1 bt645.1 bt645.2.1) else (droppertop_TopWear.j13 k bt641.2.2 true bt641.1 bt641.2.1 bt645.1 bt645.2.1))))
def droppertop_TopWear.j13 : Nat → Int → Bool → Int → Int → Int → Int → Option (Bool)
  | 0, _, _, _, _, _, _ => none
  | k + 1, x6, x278, x645000, x645001, x649000, x649001 => if x278 = true then (if x6 = 0 then ((dropperlaw07_First.f k).bind fun t649 => (some t649)) else (if x6 = 4 then ((dropperlaw07_First.f k).bind fun t650 => (some t650)) else (some false))) else (if x645001 ≥ 1 then ((droppertop_less.f x649000 x649001 x645000 x645001).bind fun t651 => (if t651 = true then (some false) else ((dropperlaw07_First.f k).bind fun t652 => (some t652)))) else (some false))
def droppertop_TopWear.l3 : Nat → List Int → List (S35) → List (S35) → Int → Option (Bool)
  | 0, _, _, _, _ => none
  | k + 1, x0, x1, x5, x21 => if x21 < (x0.length : Int) then (if 0 ≤ x21 then (if x21 < (x5.length : Int) then (if (!(((rd_T35 x5 x21).f0) == (rd x0 x21)) || (!(((rd_T35 x5 x21).f1) == 1))) = true then (some false) else (droppertop_TopWear.l3 k x0 x1 x5 (wrap64 (x21 + 1)))) else (none)) else (none)) else (droppertop_TopWear.j11 k x0 x1 x5)
end
def droppertop_TopWear.f (k : Nat) (l0 : List Int) (l1 : List (S35)) : Option (Bool) := (dropperref07_Valid.f k l0).bind fun t601 => (if t601 = true then (droppertop_TopWear.j0 k l0 l1 (decide ((l1.length : Int) > 60))) else (droppertop_TopWear.j0 k l0 l1 true))
theorem droppertop_TopWear.mono_l : ∀ k, (∀ y0 y1 y2, LeO (droppertop_TopWear.j0 k y0 y1 y2) (droppertop_TopWear.j0 (k + 1) y0 y1 y2)) ∧ (∀ y0 y1 y2 y3 y4, LeO (droppertop_TopWear.j1 k y0 y1 y2 y3 y4) (droppertop_TopWear.j1 (k + 1) y0 y1 y2 y3 y4)) ∧ (∀ y0 y1 y2 y3 y4, LeO (droppertop_TopWear.j2 k y0 y1 y2 y3 y4) (droppertop_TopWear.j2 (k + 1) y0 y1 y2 y3 y4)) ∧ (∀ y0 y1 y2 y3 y4, LeO (droppertop_TopWear.l0 k y0 y1 y2 y3 y4) (droppertop_TopWear.l0 (k + 1) y0 y1 y2 y3 y4)) ∧ (∀ y0 y1 y2 y3 y4 y5, LeO (droppertop_TopWear.l1 k y0 y1 y2 y3 y4 y5) (droppertop_TopWear.l1 (k + 1) y0 y1 y2 y3 y4 y5)) ∧ (∀ y0 y1 y2 y3 y4 y5 y6, LeO (droppertop_TopWear.j5 k y0 y1 y2 y3 y4 y5 y6) (droppertop_TopWear.j5 (k + 1) y0 y1 y2 y3 y4 y5 y6)) ∧ (∀ y0 y1 y2 y3 y4 y5 y6 y7, LeO (droppertop_TopWear.j6 k y0 y1 y2 y3 y4 y5 y6 y7) (droppertop_TopWear.j6 (k + 1) y0 y1 y2 y3 y4 y5 y6 y7)) ∧ (∀ y0 y1 y2 y3 y4 y5, LeO (droppertop_TopWear.l2 k y0 y1 y2 y3 y4 y5) (droppertop_TopWear.l2 (k + 1) y0 y1 y2 y3 y4 y5)) ∧ (∀ y0 y1 y2 y3 y4 y5, LeO (droppertop_TopWear.j8 k y0 y1 y2 y3 y4 y5) (droppertop_TopWear.j8 (k + 1) y0 y1 y2 y3 y4 y5)) ∧ (∀ y0 y1 y2 y3, LeO (droppertop_TopWear.j9 k y0 y1 y2 y3) (droppertop_TopWear.j9 (k + 1) y0 y1 y2 y3)) ∧ (∀ y0 y1 y2, LeO (droppertop_TopWear.j11 k y0 y1 y2) (droppertop_TopWear.j11 (k + 1) y0 y1 y2)) ∧ (∀ y0 y1 y2 y3, LeO (droppertop_TopWear.j12 k y0 y1 y2 y3) (droppertop_TopWear.j12 (k + 1) y0 y1 y2 y3)) ∧ (∀ y0 y1 y2 y3 y4 y5, LeO (droppertop_TopWear.j13 k y0 y1 y2 y3 y4 y5) (droppertop_TopWear.j13 (k + 1) y0 y1 y2 y3 y4 y5)) ∧ (∀ y0 y1 y2 y3, LeO (droppertop_TopWear.l3 k y0 y1 y2 y3) (droppertop_TopWear.l3 (k + 1) y0 y1 y2 y3))
  | 0 => ⟨fun _ _ _ r h => by simp [droppertop_TopWear.j0] at h, fun _ _ _ _ _ r h => by simp [droppertop_TopWear.j1] at h, fun _ _ _ _ _ r h => by simp [droppertop_TopWear.j2] at h, fun _ _ _ _ _ r h => by simp [droppertop_TopWear.l0] at h, fun _ _ _ _ _ _ r h => by simp [droppertop_TopWear.l1] at h, fun _ _ _ _ _ _ _ r h => by simp [droppertop_TopWear.j5] at h, fun _ _ _ _ _ _ _ _ r h => by simp [droppertop_TopWear.j6] at h, fun _ _ _ _ _ _ r h => by simp [droppertop_TopWear.l2] at h, fun _ _ _ _ _ _ r h => by simp [droppertop_TopWear.j8] at h, fun _ _ _ _ r h => by simp [droppertop_TopWear.j9] at h, fun _ _ _ r h => by simp [droppertop_TopWear.j11] at h, fun _ _ _ _ r h => by simp [droppertop_TopWear.j12] at h, fun _ _ _ _ _ _ r h => by simp [droppertop_TopWear.j13] at h, fun _ _ _ _ r h => by simp [droppertop_TopWear.l3] at h⟩
  | k + 1 => by
    obtain ⟨ih0, ih1, ih2, ih3, ih4, ih5, ih6, ih7, ih8, ih9, ih10, ih11, ih12, ih13⟩ := droppertop_TopWear.mono_l k
    refine ⟨?_, ?_, ?_, ?_, ?_, ?_, ?_, ?_, ?_, ?_, ?_, ?_, ?_, ?_⟩
    intro y0 y1 y2; unfold droppertop_TopWear.j0; rotate_left
    intro y0 y1 y2 y3 y4; unfold droppertop_TopWear.j1; rotate_left
    intro y0 y1 y2 y3 y4; unfold droppertop_TopWear.j2; rotate_left
    intro y0 y1 y2 y3 y4; unfold droppertop_TopWear.l0; rotate_left
    intro y0 y1 y2 y3 y4 y5; unfold droppertop_TopWear.l1; rotate_left
    intro y0 y1 y2 y3 y4 y5 y6; unfold droppertop_TopWear.j5; rotate_left
    intro y0 y1 y2 y3 y4 y5 y6 y7; unfold droppertop_TopWear.j6; rotate_left
    intro y0 y1 y2 y3 y4 y5; unfold droppertop_TopWear.l2; rotate_left
    intro y0 y1 y2 y3 y4 y5; unfold droppertop_TopWear.j8; rotate_left
    intro y0 y1 y2 y3; unfold droppertop_TopWear.j9; rotate_left
    intro y0 y1 y2; unfold droppertop_TopWear.j11; rotate_left
    intro y0 y1 y2 y3; unfold droppertop_TopWear.j12; rotate_left
    intro y0 y1 y2 y3 y4 y5; unfold droppertop_TopWear.j13; rotate_left
    intro y0 y1 y2 y3; unfold droppertop_TopWear.l3; rotate_left
    all_goals repeat' first
      | (with_reducible exact ih0 _ _ _)
      | (with_reducible exact ih1 _ _ _ _ _)
      | (with_reducible exact ih2 _ _ _ _ _)
      | (with_reducible exact ih3 _ _ _ _ _)
      | (with_reducible exact ih4 _ _ _ _ _ _)
      | (with_reducible exact ih5 _ _ _ _ _ _ _)
      | (with_reducible exact ih6 _ _ _ _ _ _ _ _)
      | (with_reducible exact ih7 _ _ _ _ _ _)
      | (with_reducible exact ih8 _ _ _ _ _ _)
      | (with_reducible exact ih9 _ _ _ _)
      | (with_reducible exact ih10 _ _ _)
      | (with_reducible exact ih11 _ _ _ _)
      | (with_reducible exact ih12 _ _ _ _ _ _)
      | (with_reducible exact ih13 _ _ _ _)
      | (with_reducible exact dropperlaw07_First.mono _)
      | (with_reducible exact dropperref07_Error.mono _ _ _)
      | (with_reducible exact dropperref07_Grows.mono _ _ _)
      | (with_reducible exact dropperref07_IsRow.mono _ _ _)
      | (with_reducible exact dropperref07_Valid.mono _ _)
      | (with_reducible exact wear_Between.mono _ _ _)
      | (with_reducible exact wear_Blocks.mono _ _)
      | (with_reducible exact wear_Error.mono _ _ _)
      | (with_reducible exact wear_Falls.mono _ _)
      | (with_reducible exact wear_Grows.mono _ _ _)
      | (with_reducible exact wear_Mean.mono _ _ _ _)
      | (with_reducible exact wear_Nearest.mono _ _)
      | (with_reducible exact LeO.refl _)
      | (with_reducible exact LeO.none _)
      | (with_reducible refine LeO.ite ?_ ?_)
      | (with_reducible refine LeO.bind ?_ (fun _ => ?_))
      | exact ih0 _ _ _
      | exact ih1 _ _ _ _ _
      | exact ih2 _ _ _ _ _
      | exact ih3 _ _ _ _ _
      | exact ih4 _ _ _ _ _ _
      | exact ih5 _ _ _ _ _ _ _
      | exact ih6 _ _ _ _ _ _ _ _
      | exact ih7 _ _ _ _ _ _
      | exact ih8 _ _ _ _ _ _
      | exact ih9 _ _ _ _
      | exact ih10 _ _ _
      | exact ih11 _ _ _ _
      | exact ih12 _ _ _ _ _ _
      | exact ih13 _ _ _ _
      | exact dropperlaw07_First.mono _
      | exact dropperref07_Error.mono _ _ _
      | exact dropperref07_Grows.mono _ _ _
      | exact dropperref07_IsRow.mono _ _ _
      | exact dropperref07_Valid.mono _ _
      | exact wear_Between.mono _ _ _
      | exact wear_Blocks.mono _ _
      | exact wear_Error.mono _ _ _
      | exact wear_Falls.mono _ _
      | exact wear_Grows.mono _ _ _
      | exact wear_Mean.mono _ _ _ _
      | exact wear_Nearest.mono _ _
      | exact LeO.none _
      | refine LeO.ite ?_ ?_
      | refine LeO.bind ?_ (fun _ => ?_)
theorem droppertop_TopWear.mono : ∀ a0 a1 k, LeO (droppertop_TopWear.f k a0 a1) (droppertop_TopWear.f (k + 1) a0 a1) := by
  intro a0 a1 k
  obtain ⟨ih0, ih1, ih2, ih3, ih4, ih5, ih6, ih7, ih8, ih9, ih10, ih11, ih12, ih13⟩ := droppertop_TopWear.mono_l k
  unfold droppertop_TopWear.f
  repeat' first
      | (with_reducible exact ih0 _ _ _)
      | (with_reducible exact ih1 _ _ _ _ _)
      | (with_reducible exact ih2 _ _ _ _ _)
      | (with_reducible exact ih3 _ _ _ _ _)
      | (with_reducible exact ih4 _ _ _ _ _ _)
      | (with_reducible exact ih5 _ _ _ _ _ _ _)
      | (with_reducible exact ih6 _ _ _ _ _ _ _ _)
      | (with_reducible exact ih7 _ _ _ _ _ _)
      | (with_reducible exact ih8 _ _ _ _ _ _)
      | (with_reducible exact ih9 _ _ _ _)
      | (with_reducible exact ih10 _ _ _)
      | (with_reducible exact ih11 _ _ _ _)
      | (with_reducible exact ih12 _ _ _ _ _ _)
      | (with_reducible exact ih13 _ _ _ _)
      | (with_reducible exact dropperlaw07_First.mono _)
      | (with_reducible exact dropperref07_Error.mono _ _ _)
      | (with_reducible exact dropperref07_Grows.mono _ _ _)
      | (with_reducible exact dropperref07_IsRow.mono _ _ _)
      | (with_reducible exact dropperref07_Valid.mono _ _)
      | (with_reducible exact wear_Between.mono _ _ _)
      | (with_reducible exact wear_Blocks.mono _ _)
      | (with_reducible exact wear_Error.mono _ _ _)
      | (with_reducible exact wear_Falls.mono _ _)
      | (with_reducible exact wear_Grows.mono _ _ _)
      | (with_reducible exact wear_Mean.mono _ _ _ _)
      | (with_reducible exact wear_Nearest.mono _ _)
      | (with_reducible exact LeO.refl _)
      | (with_reducible exact LeO.none _)
      | (with_reducible refine LeO.ite ?_ ?_)
      | (with_reducible refine LeO.bind ?_ (fun _ => ?_))
      | exact ih0 _ _ _
      | exact ih1 _ _ _ _ _
      | exact ih2 _ _ _ _ _
      | exact ih3 _ _ _ _ _
      | exact ih4 _ _ _ _ _ _
      | exact ih5 _ _ _ _ _ _ _
      | exact ih6 _ _ _ _ _ _ _ _
      | exact ih7 _ _ _ _ _ _
      | exact ih8 _ _ _ _ _ _
      | exact ih9 _ _ _ _
      | exact ih10 _ _ _
      | exact ih11 _ _ _ _
      | exact ih12 _ _ _ _ _ _
      | exact ih13 _ _ _ _
      | exact dropperlaw07_First.mono _
      | exact dropperref07_Error.mono _ _ _
      | exact dropperref07_Grows.mono _ _ _
      | exact dropperref07_IsRow.mono _ _ _
      | exact dropperref07_Valid.mono _ _
      | exact wear_Between.mono _ _ _
      | exact wear_Blocks.mono _ _
      | exact wear_Error.mono _ _ _
      | exact wear_Falls.mono _ _
      | exact wear_Grows.mono _ _ _
      | exact wear_Mean.mono _ _ _ _
      | exact wear_Nearest.mono _ _
      | exact LeO.none _
      | refine LeO.ite ?_ ?_
      | refine LeO.bind ?_ (fun _ => ?_)
end Go.Proofs.Ytklapbgajghhcaa.G
end
