-- Written by this session's driver (wip/tools/printmore.py) over the kit's print, with hand-written parts.
import Derived.Test.YtiebfmenkpodeaaGBase
import Derived.Test.YtiebfmenkpodeaaGF24
import Derived.Test.YtiebfmenkpodeaaGF28
import Derived.Test.YtiebfmenkpodeaaGF31
import Derived.Test.YtiebfmenkpodeaaGF18
import Derived.Test.YtiebfmenkpodeaaGF29
import Derived.Test.YtiebfmenkpodeaaGF26
import Derived.Test.YtiebfmenkpodeaaGF30
import Derived.Test.YtiebfmenkpodeaaGF32
import Derived.Test.YtiebfmenkpodeaaGF38
import Derived.Test.YtiebfmenkpodeaaGF33
import Derived.Test.YtiebfmenkpodeaaGF34
import Derived.Test.YtiebfmenkpodeaaGF35
import Derived.Test.YtiebfmenkpodeaaGF36
import Derived.Test.YtiebfmenkpodeaaGF37
import Derived.Test.YtiebfmenkpodeaaGF39
import Derived.Test.YtiebfmenkpodeaaGF40
namespace Go.Proofs.Ytiebfmenkpodeaa.G
open Go.RowKit Go.Proofs.YtiebfmenkpodeaaW.PrintWords Go.Proofs.YtiebfmenkpodeaaW.PrintLast Go.Proofs.YtiebfmenkpodeaaW.PrintMore
attribute [local go_sem] max2_int min2_int max_two min_two max_three min_three max_four min_four   -- for this text's walks alone
set_option linter.unusedVariables false
set_option linter.unusedSimpArgs false

/-! ### droppertop_TopPull: function 7 -/
mutual
def droppertop_TopPull.j0 : Nat → List Int → Bool → Int → Int → List Int → Int → Option (Bool)
  | 0, _, _, _, _, _, _ => none
  | k + 1, x0, x45, x602000, x602001, x603000, x603001 => if x45 = true then ((dropperlaw04_Awake.f k).bind fun t604 => (some t604)) else ((pull_Number.f k x0 x602000 x602001).bind fun bt605 => ((pull_Fewest.f k x0 x602000 x602001).bind fun bt607 => ((pull_Most.f k x0 x602000 x602001).bind fun bt611 => ((pull_Evenest.f k x0 x602000 x602001).bind fun bt615 => ((pull_Must.f k x0 x602000 x602001).bind fun bt619 => ((pull_Anchors.f k x0 x602000 x602001).bind fun bt623 => ((pull_IsPlan.f k x0 x602000 x602001 x603000).bind fun bt627 => (if bt605.2 = 0 then (if bt623.2 = 0 then (if bt627.2 = 0 then (droppertop_TopPull.j1 k x0 bt605.1 bt607.1 bt607.2 bt611.1 bt611.2 bt615.1 bt615.2 bt619.1 bt619.2 bt623.1 bt627.1 (decide (bt605.1 < 0)) x602000 x602001 x603000 x603001) else (droppertop_TopPull.j1 k x0 bt605.1 bt607.1 bt607.2 bt611.1 bt611.2 bt615.1 bt615.2 bt619.1 bt619.2 bt623.1 bt627.1 true x602000 x602001 x603000 x603001)) else (droppertop_TopPull.j1 k x0 bt605.1 bt607.1 bt607.2 bt611.1 bt611.2 bt615.1 bt615.2 bt619.1 bt619.2 bt623.1 bt627.1 true x602000 x602001 x603000 x603001)) else (droppertop_TopPull.j1 k x0 bt605.1 bt607.1 bt607.2 bt611.1 bt611.2 bt615.1 bt615.2 bt619.1 bt619.2 bt623.1 bt627.1 true x602000 x602001 x603000 x603001)))))))))
def droppertop_TopPull.j1 : Nat → List Int → Int → List Int → Int → List Int → Int → List Int → Int → List Int → Int → List Int → Bool → Bool → Int → Int → List Int → Int → Option (Bool)
  | 0, _, _, _, _, _, _, _, _, _, _, _, _, _, _, _, _, _ => none
  | k + 1, x0, x7, x9, x10, x11, x12, x13, x14, x15, x16, x17, x19, x125, x602000, x602001, x603000, x603001 => if x125 = true then (some false) else (if x7 = 0 then (if x10 = 5 then (if x12 = 5 then (if x14 = 5 then (if x16 = 5 then (if (x17.length : Int) = 0 then (if x19 = true then (some false) else ((dropperlaw04_Awake.f k).bind fun t629 => (some t629))) else (some false)) else (some false)) else (some false)) else (some false)) else (some false)) else (if x10 = 0 then (if x12 = 0 then (if x14 = 0 then (droppertop_TopPull.j2 k x0 x7 x9 x11 x13 x15 x17 x19 (x16 != 0) x602000 x602001 x603000 x603001) else (droppertop_TopPull.j2 k x0 x7 x9 x11 x13 x15 x17 x19 true x602000 x602001 x603000 x603001)) else (droppertop_TopPull.j2 k x0 x7 x9 x11 x13 x15 x17 x19 true x602000 x602001 x603000 x603001)) else (droppertop_TopPull.j2 k x0 x7 x9 x11 x13 x15 x17 x19 true x602000 x602001 x603000 x603001)))
def droppertop_TopPull.j2 : Nat → List Int → Int → List Int → List Int → List Int → List Int → List Int → Bool → Bool → Int → Int → List Int → Int → Option (Bool)
  | 0, _, _, _, _, _, _, _, _, _, _, _, _, _ => none
  | k + 1, x0, x7, x9, x11, x13, x15, x17, x19, x167, x602000, x602001, x603000, x603001 => if x167 = true then (some false) else (if x7 = 0 then (none) else ((pull_Plan.f k x0 x602000 x602001 (Int.tmod (wrap64 (x603001)) x7)).bind fun bt630 => ((pull_Rank.f k x0 x602000 x602001 bt630.1).bind fun bt634 => (if bt630.2 = 0 then (if bt634.2 = 0 then (droppertop_TopPull.j3 k x0 x7 x9 x11 x13 x15 x17 x19 bt630.1 (bt634.1 != (Int.tmod (wrap64 (x603001)) x7)) x602000 x602001 x603000 x603001) else (droppertop_TopPull.j3 k x0 x7 x9 x11 x13 x15 x17 x19 bt630.1 true x602000 x602001 x603000 x603001)) else (droppertop_TopPull.j3 k x0 x7 x9 x11 x13 x15 x17 x19 bt630.1 true x602000 x602001 x603000 x603001)))))
def droppertop_TopPull.j3 : Nat → List Int → Int → List Int → List Int → List Int → List Int → List Int → Bool → List Int → Bool → Int → Int → List Int → Int → Option (Bool)
  | 0, _, _, _, _, _, _, _, _, _, _, _, _, _, _ => none
  | k + 1, x0, x7, x9, x11, x13, x15, x17, x19, x21, x206, x602000, x602001, x603000, x603001 => if x206 = true then (some false) else ((some (([x9, x11, x13, x21] : List (List Int)) : List (List Int))).bind fun y636 => (if x19 = true then (if y636.length < 5864062014805 then (droppertop_TopPull.j4 k x0 x7 x9 x11 x13 x15 x17 (y636 ++ [x603000]) x602000 x602001) else (none)) else (droppertop_TopPull.j4 k x0 x7 x9 x11 x13 x15 x17 y636 x602000 x602001)))
def droppertop_TopPull.j4 : Nat → List Int → Int → List Int → List Int → List Int → List Int → List Int → List (List Int) → Int → Int → Option (Bool)
  | 0, _, _, _, _, _, _, _, _, _, _ => none
  | k + 1, x0, x7, x9, x11, x13, x15, x17, x23, x602000, x602001 => (droppertop_longest.f k x0 x13).bind fun t642 => (droppertop_TopPull.l0 k x0 x7 x9 x11 x15 x17 x23 t642 0 x602000 x602001)
def droppertop_TopPull.l0 : Nat → List Int → Int → List Int → List Int → List Int → List Int → List (List Int) → Int → Int → Int → Int → Option (Bool)
  | 0, _, _, _, _, _, _, _, _, _, _, _ => none
  | k + 1, x0, x7, x9, x11, x15, x17, x23, x24, x25, x602000, x602001 => if x25 < (x23.length : Int) then (if 0 ≤ x25 then ((pull_IsPlan.f k x0 x602000 x602001 (rd_L1 x23 x25)).bind fun bt646 => ((pull_Rank.f k x0 x602000 x602001 (rd_L1 x23 x25)).bind fun bt648 => (if bt646.2 = 0 then (if bt648.2 = 0 then (if bt646.1 = true then (if bt648.1 < 0 then (droppertop_TopPull.j6 k x0 x7 x9 x11 x15 x17 x23 x24 x25 (rd_L1 x23 x25) bt648.1 true x602000 x602001) else (droppertop_TopPull.j6 k x0 x7 x9 x11 x15 x17 x23 x24 x25 (rd_L1 x23 x25) bt648.1 (decide (bt648.1 ≥ x7)) x602000 x602001)) else (droppertop_TopPull.j6 k x0 x7 x9 x11 x15 x17 x23 x24 x25 (rd_L1 x23 x25) bt648.1 true x602000 x602001)) else (droppertop_TopPull.j6 k x0 x7 x9 x11 x15 x17 x23 x24 x25 (rd_L1 x23 x25) bt648.1 true x602000 x602001)) else (droppertop_TopPull.j6 k x0 x7 x9 x11 x15 x17 x23 x24 x25 (rd_L1 x23 x25) bt648.1 true x602000 x602001)))) else (none)) else ((droppertop_within.f k x15 x17).bind fun t643 => (if t643 = true then ((dropperlaw04_Awake.f k).bind fun t644 => (some t644)) else (some false)))
def droppertop_TopPull.j6 : Nat → List Int → Int → List Int → List Int → List Int → List Int → List (List Int) → Int → Int → List Int → Int → Bool → Int → Int → Option (Bool)
  | 0, _, _, _, _, _, _, _, _, _, _, _, _, _, _ => none
  | k + 1, x0, x7, x9, x11, x15, x17, x23, x24, x25, x26, x29, x269, x602000, x602001 => if x269 = true then (some false) else ((pull_Plan.f k x0 x602000 x602001 x29).bind fun bt650 => ((pull_Lengths.f k x0 x26).bind fun bt654 => (if bt650.2 = 0 then (if bt654.2 = 0 then ((dropperlaw04_SameInts.f k bt650.1 x26).bind fun t658 => (if t658 = true then ((droppertop_sum.f k bt654.1).bind fun t659 => (if 0 ≤ (wrap64 ((x0.length : Int) - 1)) then (if (wrap64 ((x0.length : Int) - 1)) < (x0.length : Int) then (if 0 < (x0.length : Int) then (if t659 = (wrap64 ((rd x0 (wrap64 ((x0.length : Int) - 1))) - (rd x0 0))) then (droppertop_TopPull.j7 k x0 x7 x9 x11 x15 x17 x23 x24 x25 x26 ((bt654.1.length : Int) != (wrap64 ((x26.length : Int) - 1))) x602000 x602001) else (droppertop_TopPull.j7 k x0 x7 x9 x11 x15 x17 x23 x24 x25 x26 true x602000 x602001)) else (none)) else (none)) else (none))) else (droppertop_TopPull.j7 k x0 x7 x9 x11 x15 x17 x23 x24 x25 x26 true x602000 x602001))) else (droppertop_TopPull.j7 k x0 x7 x9 x11 x15 x17 x23 x24 x25 x26 true x602000 x602001)) else (droppertop_TopPull.j7 k x0 x7 x9 x11 x15 x17 x23 x24 x25 x26 true x602000 x602001))))
def droppertop_TopPull.j7 : Nat → List Int → Int → List Int → List Int → List Int → List Int → List (List Int) → Int → Int → List Int → Bool → Int → Int → Option (Bool)
  | 0, _, _, _, _, _, _, _, _, _, _, _, _, _ => none
  | k + 1, x0, x7, x9, x11, x15, x17, x23, x24, x25, x26, x320, x602000, x602001 => if x320 = true then (some false) else (if (x26.length : Int) < (x9.length : Int) then (some false) else (if (x26.length : Int) > (x11.length : Int) then (some false) else ((droppertop_longest.f k x0 x26).bind fun t662 => (if t662 < x24 then (some false) else ((droppertop_within.f k x15 x26).bind fun t663 => (if t663 = true then ((droppertop_within.f k x26 x17).bind fun t664 => (if t664 = true then (droppertop_TopPull.l0 k x0 x7 x9 x11 x15 x17 x23 x24 (wrap64 (x25 + 1)) x602000 x602001) else (some false))) else (some false)))))))
end
def droppertop_TopPull.f (k : Nat) (l0 : List Int) (a1_0 : Int) (a1_1 : Int) (l2_0 : List Int) (a2_1 : Int) : Option (Bool) := (dropperref04_Valid.f k l0 a1_0 a1_1).bind fun t603 => (if t603 = true then (droppertop_TopPull.j0 k l0 (decide ((l2_0.length : Int) > 50)) a1_0 a1_1 l2_0 a2_1) else (droppertop_TopPull.j0 k l0 true a1_0 a1_1 l2_0 a2_1))
theorem droppertop_TopPull.mono_l : ∀ k, (∀ y0 y1 y2 y3 y4 y5, LeO (droppertop_TopPull.j0 k y0 y1 y2 y3 y4 y5) (droppertop_TopPull.j0 (k + 1) y0 y1 y2 y3 y4 y5)) ∧ (∀ y0 y1 y2 y3 y4 y5 y6 y7 y8 y9 y10 y11 y12 y13 y14 y15 y16, LeO (droppertop_TopPull.j1 k y0 y1 y2 y3 y4 y5 y6 y7 y8 y9 y10 y11 y12 y13 y14 y15 y16) (droppertop_TopPull.j1 (k + 1) y0 y1 y2 y3 y4 y5 y6 y7 y8 y9 y10 y11 y12 y13 y14 y15 y16)) ∧ (∀ y0 y1 y2 y3 y4 y5 y6 y7 y8 y9 y10 y11 y12, LeO (droppertop_TopPull.j2 k y0 y1 y2 y3 y4 y5 y6 y7 y8 y9 y10 y11 y12) (droppertop_TopPull.j2 (k + 1) y0 y1 y2 y3 y4 y5 y6 y7 y8 y9 y10 y11 y12)) ∧ (∀ y0 y1 y2 y3 y4 y5 y6 y7 y8 y9 y10 y11 y12 y13, LeO (droppertop_TopPull.j3 k y0 y1 y2 y3 y4 y5 y6 y7 y8 y9 y10 y11 y12 y13) (droppertop_TopPull.j3 (k + 1) y0 y1 y2 y3 y4 y5 y6 y7 y8 y9 y10 y11 y12 y13)) ∧ (∀ y0 y1 y2 y3 y4 y5 y6 y7 y8 y9, LeO (droppertop_TopPull.j4 k y0 y1 y2 y3 y4 y5 y6 y7 y8 y9) (droppertop_TopPull.j4 (k + 1) y0 y1 y2 y3 y4 y5 y6 y7 y8 y9)) ∧ (∀ y0 y1 y2 y3 y4 y5 y6 y7 y8 y9 y10, LeO (droppertop_TopPull.l0 k y0 y1 y2 y3 y4 y5 y6 y7 y8 y9 y10) (droppertop_TopPull.l0 (k + 1) y0 y1 y2 y3 y4 y5 y6 y7 y8 y9 y10)) ∧ (∀ y0 y1 y2 y3 y4 y5 y6 y7 y8 y9 y10 y11 y12 y13, LeO (droppertop_TopPull.j6 k y0 y1 y2 y3 y4 y5 y6 y7 y8 y9 y10 y11 y12 y13) (droppertop_TopPull.j6 (k + 1) y0 y1 y2 y3 y4 y5 y6 y7 y8 y9 y10 y11 y12 y13)) ∧ (∀ y0 y1 y2 y3 y4 y5 y6 y7 y8 y9 y10 y11 y12, LeO (droppertop_TopPull.j7 k y0 y1 y2 y3 y4 y5 y6 y7 y8 y9 y10 y11 y12) (droppertop_TopPull.j7 (k + 1) y0 y1 y2 y3 y4 y5 y6 y7 y8 y9 y10 y11 y12))
  | 0 => ⟨fun _ _ _ _ _ _ r h => by simp [droppertop_TopPull.j0] at h, fun _ _ _ _ _ _ _ _ _ _ _ _ _ _ _ _ _ r h => by simp [droppertop_TopPull.j1] at h, fun _ _ _ _ _ _ _ _ _ _ _ _ _ r h => by simp [droppertop_TopPull.j2] at h, fun _ _ _ _ _ _ _ _ _ _ _ _ _ _ r h => by simp [droppertop_TopPull.j3] at h, fun _ _ _ _ _ _ _ _ _ _ r h => by simp [droppertop_TopPull.j4] at h, fun _ _ _ _ _ _ _ _ _ _ _ r h => by simp [droppertop_TopPull.l0] at h, fun _ _ _ _ _ _ _ _ _ _ _ _ _ _ r h => by simp [droppertop_TopPull.j6] at h, fun _ _ _ _ _ _ _ _ _ _ _ _ _ r h => by simp [droppertop_TopPull.j7] at h⟩
  | k + 1 => by
    obtain ⟨ih0, ih1, ih2, ih3, ih4, ih5, ih6, ih7⟩ := droppertop_TopPull.mono_l k
    refine ⟨?_, ?_, ?_, ?_, ?_, ?_, ?_, ?_⟩
    intro y0 y1 y2 y3 y4 y5; unfold droppertop_TopPull.j0; rotate_left
    intro y0 y1 y2 y3 y4 y5 y6 y7 y8 y9 y10 y11 y12 y13 y14 y15 y16; unfold droppertop_TopPull.j1; rotate_left
    intro y0 y1 y2 y3 y4 y5 y6 y7 y8 y9 y10 y11 y12; unfold droppertop_TopPull.j2; rotate_left
    intro y0 y1 y2 y3 y4 y5 y6 y7 y8 y9 y10 y11 y12 y13; unfold droppertop_TopPull.j3; rotate_left
    intro y0 y1 y2 y3 y4 y5 y6 y7 y8 y9; unfold droppertop_TopPull.j4; rotate_left
    intro y0 y1 y2 y3 y4 y5 y6 y7 y8 y9 y10; unfold droppertop_TopPull.l0; rotate_left
    intro y0 y1 y2 y3 y4 y5 y6 y7 y8 y9 y10 y11 y12 y13; unfold droppertop_TopPull.j6; rotate_left
    intro y0 y1 y2 y3 y4 y5 y6 y7 y8 y9 y10 y11 y12; unfold droppertop_TopPull.j7; rotate_left
    all_goals repeat' first
      | (with_reducible exact ih0 _ _ _ _ _ _)
      | (with_reducible exact ih1 _ _ _ _ _ _ _ _ _ _ _ _ _ _ _ _ _)
      | (with_reducible exact ih2 _ _ _ _ _ _ _ _ _ _ _ _ _)
      | (with_reducible exact ih3 _ _ _ _ _ _ _ _ _ _ _ _ _ _)
      | (with_reducible exact ih4 _ _ _ _ _ _ _ _ _ _)
      | (with_reducible exact ih5 _ _ _ _ _ _ _ _ _ _ _)
      | (with_reducible exact ih6 _ _ _ _ _ _ _ _ _ _ _ _ _ _)
      | (with_reducible exact ih7 _ _ _ _ _ _ _ _ _ _ _ _ _)
      | (with_reducible exact dropperlaw04_Awake.mono _)
      | (with_reducible exact dropperlaw04_SameInts.mono _ _ _)
      | (with_reducible exact dropperref04_Valid.mono _ _ _ _)
      | (with_reducible exact droppertop_longest.mono _ _ _)
      | (with_reducible exact droppertop_sum.mono _ _)
      | (with_reducible exact droppertop_within.mono _ _ _)
      | (with_reducible exact pull_Anchors.mono _ _ _ _)
      | (with_reducible exact pull_Evenest.mono _ _ _ _)
      | (with_reducible exact pull_Fewest.mono _ _ _ _)
      | (with_reducible exact pull_IsPlan.mono _ _ _ _ _)
      | (with_reducible exact pull_Lengths.mono _ _ _)
      | (with_reducible exact pull_Most.mono _ _ _ _)
      | (with_reducible exact pull_Must.mono _ _ _ _)
      | (with_reducible exact pull_Number.mono _ _ _ _)
      | (with_reducible exact pull_Plan.mono _ _ _ _ _)
      | (with_reducible exact pull_Rank.mono _ _ _ _ _)
      | (with_reducible exact LeO.refl _)
      | (with_reducible exact LeO.none _)
      | (with_reducible refine LeO.ite ?_ ?_)
      | (with_reducible refine LeO.bind ?_ (fun _ => ?_))
      | exact ih0 _ _ _ _ _ _
      | exact ih1 _ _ _ _ _ _ _ _ _ _ _ _ _ _ _ _ _
      | exact ih2 _ _ _ _ _ _ _ _ _ _ _ _ _
      | exact ih3 _ _ _ _ _ _ _ _ _ _ _ _ _ _
      | exact ih4 _ _ _ _ _ _ _ _ _ _
      | exact ih5 _ _ _ _ _ _ _ _ _ _ _
      | exact ih6 _ _ _ _ _ _ _ _ _ _ _ _ _ _
      | exact ih7 _ _ _ _ _ _ _ _ _ _ _ _ _
      | exact dropperlaw04_Awake.mono _
      | exact dropperlaw04_SameInts.mono _ _ _
      | exact dropperref04_Valid.mono _ _ _ _
      | exact droppertop_longest.mono _ _ _
      | exact droppertop_sum.mono _ _
      | exact droppertop_within.mono _ _ _
      | exact pull_Anchors.mono _ _ _ _
      | exact pull_Evenest.mono _ _ _ _
      | exact pull_Fewest.mono _ _ _ _
      | exact pull_IsPlan.mono _ _ _ _ _
      | exact pull_Lengths.mono _ _ _
      | exact pull_Most.mono _ _ _ _
      | exact pull_Must.mono _ _ _ _
      | exact pull_Number.mono _ _ _ _
      | exact pull_Plan.mono _ _ _ _ _
      | exact pull_Rank.mono _ _ _ _ _
      | exact LeO.none _
      | refine LeO.ite ?_ ?_
      | refine LeO.bind ?_ (fun _ => ?_)
theorem droppertop_TopPull.mono : ∀ a0 a1 a2 a3 a4 k, LeO (droppertop_TopPull.f k a0 a1 a2 a3 a4) (droppertop_TopPull.f (k + 1) a0 a1 a2 a3 a4) := by
  intro a0 a1 a2 a3 a4 k
  obtain ⟨ih0, ih1, ih2, ih3, ih4, ih5, ih6, ih7⟩ := droppertop_TopPull.mono_l k
  unfold droppertop_TopPull.f
  repeat' first
      | (with_reducible exact ih0 _ _ _ _ _ _)
      | (with_reducible exact ih1 _ _ _ _ _ _ _ _ _ _ _ _ _ _ _ _ _)
      | (with_reducible exact ih2 _ _ _ _ _ _ _ _ _ _ _ _ _)
      | (with_reducible exact ih3 _ _ _ _ _ _ _ _ _ _ _ _ _ _)
      | (with_reducible exact ih4 _ _ _ _ _ _ _ _ _ _)
      | (with_reducible exact ih5 _ _ _ _ _ _ _ _ _ _ _)
      | (with_reducible exact ih6 _ _ _ _ _ _ _ _ _ _ _ _ _ _)
      | (with_reducible exact ih7 _ _ _ _ _ _ _ _ _ _ _ _ _)
      | (with_reducible exact dropperlaw04_Awake.mono _)
      | (with_reducible exact dropperlaw04_SameInts.mono _ _ _)
      | (with_reducible exact dropperref04_Valid.mono _ _ _ _)
      | (with_reducible exact droppertop_longest.mono _ _ _)
      | (with_reducible exact droppertop_sum.mono _ _)
      | (with_reducible exact droppertop_within.mono _ _ _)
      | (with_reducible exact pull_Anchors.mono _ _ _ _)
      | (with_reducible exact pull_Evenest.mono _ _ _ _)
      | (with_reducible exact pull_Fewest.mono _ _ _ _)
      | (with_reducible exact pull_IsPlan.mono _ _ _ _ _)
      | (with_reducible exact pull_Lengths.mono _ _ _)
      | (with_reducible exact pull_Most.mono _ _ _ _)
      | (with_reducible exact pull_Must.mono _ _ _ _)
      | (with_reducible exact pull_Number.mono _ _ _ _)
      | (with_reducible exact pull_Plan.mono _ _ _ _ _)
      | (with_reducible exact pull_Rank.mono _ _ _ _ _)
      | (with_reducible exact LeO.refl _)
      | (with_reducible exact LeO.none _)
      | (with_reducible refine LeO.ite ?_ ?_)
      | (with_reducible refine LeO.bind ?_ (fun _ => ?_))
      | exact ih0 _ _ _ _ _ _
      | exact ih1 _ _ _ _ _ _ _ _ _ _ _ _ _ _ _ _ _
      | exact ih2 _ _ _ _ _ _ _ _ _ _ _ _ _
      | exact ih3 _ _ _ _ _ _ _ _ _ _ _ _ _ _
      | exact ih4 _ _ _ _ _ _ _ _ _ _
      | exact ih5 _ _ _ _ _ _ _ _ _ _ _
      | exact ih6 _ _ _ _ _ _ _ _ _ _ _ _ _ _
      | exact ih7 _ _ _ _ _ _ _ _ _ _ _ _ _
      | exact dropperlaw04_Awake.mono _
      | exact dropperlaw04_SameInts.mono _ _ _
      | exact dropperref04_Valid.mono _ _ _ _
      | exact droppertop_longest.mono _ _ _
      | exact droppertop_sum.mono _ _
      | exact droppertop_within.mono _ _ _
      | exact pull_Anchors.mono _ _ _ _
      | exact pull_Evenest.mono _ _ _ _
      | exact pull_Fewest.mono _ _ _ _
      | exact pull_IsPlan.mono _ _ _ _ _
      | exact pull_Lengths.mono _ _ _
      | exact pull_Most.mono _ _ _ _
      | exact pull_Must.mono _ _ _ _
      | exact pull_Number.mono _ _ _ _
      | exact pull_Plan.mono _ _ _ _ _
      | exact pull_Rank.mono _ _ _ _ _
      | exact LeO.none _
      | refine LeO.ite ?_ ?_
      | refine LeO.bind ?_ (fun _ => ?_)
end Go.Proofs.Ytiebfmenkpodeaa.G
