-- Written by this session's driver (wip/tools/printmore.py) over the kit's print, with hand-written parts.
import Derived.Test.YtiapmkndgalgnaaGBase
import Derived.Test.YtiapmkndgalgnaaGF16
import Derived.Test.YtiapmkndgalgnaaGF27
import Derived.Test.YtiapmkndgalgnaaGF14
import Derived.Test.YtiapmkndgalgnaaGF24
import Derived.Test.YtiapmkndgalgnaaGF18
import Derived.Test.YtiapmkndgalgnaaGF22
import Derived.Test.YtiapmkndgalgnaaGF26
import Derived.Test.YtiapmkndgalgnaaGF29
import Derived.Test.YtiapmkndgalgnaaGF30
import Derived.Test.YtiapmkndgalgnaaGF32
import Derived.Test.YtiapmkndgalgnaaGF45
import Derived.Test.YtiapmkndgalgnaaGF46
import Derived.Test.YtiapmkndgalgnaaGF47
import Derived.Test.YtiapmkndgalgnaaGF48
namespace Go.Proofs.Ytiapmkndgalgnaa.G
open Go.RowKit Go.Proofs.YtiapmkndgalgnaaW.PrintWords Go.Proofs.YtiapmkndgalgnaaW.PrintLast Go.Proofs.YtiapmkndgalgnaaW.PrintMore
attribute [local go_sem] max2_int min2_int max_two min_two max_three min_three max_four min_four   -- for this text's walks alone
set_option linter.unusedVariables false
set_option linter.unusedSimpArgs false

/-! ### droppertop_TopArm: function 11 -/
mutual
def droppertop_TopArm.j0 : Nat → List (S73) → Bool → Int → Int → Int → List Int → List (S84) → Option (Bool)
 | 0, _, _, _, _, _, _, _ => none
 | k + 1, x0, x33, x602000, x602001, x602002, x602003, x602004 => if x33 = true then ((dropperlaw03_First.f k).bind fun t603 => (some t603)) else ((arm_Line.f k x0).bind fun bt604 => ((arm_Forbid.f k x0).bind fun bt609 => (if ((bt604.2.2.2 == 0) == (bt609.2.2.2 == 0)) = true then (droppertop_TopArm.j1 k x0 bt604.2.2.2 true x602000 x602001 x602002 x602003 x602004 bt604.1 bt604.2.1 bt604.2.2.1 bt609.1 bt609.2.1 bt609.2.2.1) else (if bt604.2.2.2 = 0 then (if bt609.2.2.2 = 0 then (droppertop_TopArm.j1 k x0 bt604.2.2.2 false x602000 x602001 x602002 x602003 x602004 bt604.1 bt604.2.1 bt604.2.2.1 bt609.1 bt609.2.1 bt609.2.2.1) else (droppertop_TopArm.j1 k x0 bt604.2.2.2 (bt609.2.2.2 != 5) x602000 x602001 x602002 x602003 x602004 bt604.1 bt604.2.1 bt604.2.2.1 bt609.1 bt609.2.1 bt609.2.2.1)) else (if bt604.2.2.2 = 5 then (if bt609.2.2.2 = 0 then (droppertop_TopArm.j1 k x0 bt604.2.2.2 false x602000 x602001 x602002 x602003 x602004 bt604.1 bt604.2.1 bt604.2.2.1 bt609.1 bt609.2.1 bt609.2.2.1) else (droppertop_TopArm.j1 k x0 bt604.2.2.2 (bt609.2.2.2 != 5) x602000 x602001 x602002 x602003 x602004 bt604.1 bt604.2.1 bt604.2.2.1 bt609.1 bt609.2.1 bt609.2.2.1)) else (droppertop_TopArm.j1 k x0 bt604.2.2.2 true x602000 x602001 x602002 x602003 x602004 bt604.1 bt604.2.1 bt604.2.2.1 bt609.1 bt609.2.1 bt609.2.2.1))))))
def droppertop_TopArm.j1 : Nat → List (S73) → Int → Bool → Int → Int → Int → List Int → List (S84) → Int → Int → Int → Int → Int → Int → Option (Bool)
 | 0, _, _, _, _, _, _, _, _, _, _, _, _, _, _ => none
 | k + 1, x0, x6, x65, x602000, x602001, x602002, x602003, x602004, x609000, x609001, x609002, x614000, x614001, x614002 => if x65 = true then (some false) else (if x6 = 0 then ((arm_Through.f k x0 x609000 x609001 x609002).bind fun bt614 => (if bt614.2 = 0 then (if bt614.1 = true then ((droppertop_slope.f k x0 x609000 x609001 x609002).bind fun t616 => (if t616 = true then (droppertop_TopArm.j2 k x0 x6 x602000 x602001 x602002 x602003 x602004) else (some false))) else (some false)) else (some false))) else ((arm_Forbids.f k x0 x614000 x614001 x614002).bind fun bt617 => (if bt617.2 = 0 then (if bt617.1 = true then (droppertop_TopArm.j2 k x0 x6 x602000 x602001 x602002 x602003 x602004) else (some false)) else (some false))))
def droppertop_TopArm.j2 : Nat → List (S73) → Int → Int → Int → Int → List Int → List (S84) → Option (Bool)
 | 0, _, _, _, _, _, _, _ => none
 | k + 1, x0, x6, x602000, x602001, x602002, x602003, x602004 => (dropperref03_Through.f k x0 x602000 x602001 x602002).bind fun bt619 => (if bt619.2 = 0 then (if bt619.1 = true then (if x6 = 0 then ((droppertop_slope.f k x0 x602000 x602001 x602002).bind fun t621 => (droppertop_TopArm.j3 k x0 (!t621) x602000 x602001 x602002 x602003 x602004)) else (droppertop_TopArm.j3 k x0 true x602000 x602001 x602002 x602003 x602004)) else (droppertop_TopArm.j3 k x0 false x602000 x602001 x602002 x602003 x602004)) else (droppertop_TopArm.j3 k x0 false x602000 x602001 x602002 x602003 x602004))
def droppertop_TopArm.j3 : Nat → List (S73) → Bool → Int → Int → Int → List Int → List (S84) → Option (Bool)
 | 0, _, _, _, _, _, _, _ => none
 | k + 1, x0, x120, x602000, x602001, x602002, x602003, x602004 => if x120 = true then (some false) else ((arm_Pieces.f k x0).bind fun bt622 => ((arm_Blocks.f k x0).bind fun bt626 => (if bt622.2 = 0 then (if bt626.2 = 0 then (droppertop_TopArm.j4 k x0 bt622.1 bt626.1 ((bt622.1.length : Int) != (wrap64 ((bt626.1.length : Int) + 1))) x602000 x602001 x602002 x602003 x602004) else (droppertop_TopArm.j4 k x0 bt622.1 bt626.1 true x602000 x602001 x602002 x602003 x602004)) else (droppertop_TopArm.j4 k x0 bt622.1 bt626.1 true x602000 x602001 x602002 x602003 x602004))))
def droppertop_TopArm.j4 : Nat → List (S73) → List Int → List (S84) → Bool → Int → Int → Int → List Int → List (S84) → Option (Bool)
 | 0, _, _, _, _, _, _, _, _, _ => none
 | k + 1, x0, x15, x16, x144, x602000, x602001, x602002, x602003, x602004 => if x144 = true then (some false) else ((arm_ArePieces.f k x0 x15).bind fun bt630 => ((arm_AreBlocks.f k x0 x16).bind fun bt632 => (if bt630.2 = 0 then (if bt632.2 = 0 then (if bt630.1 = true then (droppertop_TopArm.j5 k x0 x15 (!bt632.1) x602000 x602001 x602002 x602003 x602004) else (droppertop_TopArm.j5 k x0 x15 true x602000 x602001 x602002 x602003 x602004)) else (droppertop_TopArm.j5 k x0 x15 true x602000 x602001 x602002 x602003 x602004)) else (droppertop_TopArm.j5 k x0 x15 true x602000 x602001 x602002 x602003 x602004))))
def droppertop_TopArm.j5 : Nat → List (S73) → List Int → Bool → Int → Int → Int → List Int → List (S84) → Option (Bool)
 | 0, _, _, _, _, _, _, _, _ => none
 | k + 1, x0, x15, x170, x602000, x602001, x602002, x602003, x602004 => if x170 = true then (some false) else ((dropperref03_ArePieces.f k x0 x602003).bind fun bt634 => ((dropperref03_AreBlocks.f k x0 x602004).bind fun bt636 => (if bt634.2 = 0 then (if bt636.2 = 0 then (if bt634.1 = true then (if (x602003.length : Int) < (x15.length : Int) then (some false) else (if bt636.1 = true then (if (x602004.length : Int) ≥ (x15.length : Int) then (some false) else ((dropperlaw03_First.f k).bind fun t638 => (some t638))) else ((dropperlaw03_First.f k).bind fun t639 => (some t639)))) else (if bt636.1 = true then (if (x602004.length : Int) ≥ (x15.length : Int) then (some false) else ((dropperlaw03_First.f k).bind fun t640 => (some t640))) else ((dropperlaw03_First.f k).bind fun t641 => (some t641)))) else (some false)) else (some false))))
end
def droppertop_TopArm.f (k : Nat) (l0 : List (S73)) (a1_0 : Int) (a1_1 : Int) (a1_2 : Int) (l1_3 : List Int) (l1_4 : List (S84)) : Option (Bool) := (dropperref03_Valid.f k l0).bind fun t602 => (if t602 = true then (if (l1_3.length : Int) > 40 then (droppertop_TopArm.j0 k l0 true a1_0 a1_1 a1_2 l1_3 l1_4) else (droppertop_TopArm.j0 k l0 (decide ((l1_4.length : Int) > 30)) a1_0 a1_1 a1_2 l1_3 l1_4)) else (droppertop_TopArm.j0 k l0 true a1_0 a1_1 a1_2 l1_3 l1_4))
theorem droppertop_TopArm.mono_l : ∀ k, (∀ y0 y1 y2 y3 y4 y5 y6, LeO (droppertop_TopArm.j0 k y0 y1 y2 y3 y4 y5 y6) (droppertop_TopArm.j0 (k + 1) y0 y1 y2 y3 y4 y5 y6)) ∧ (∀ y0 y1 y2 y3 y4 y5 y6 y7 y8 y9 y10 y11 y12 y13, LeO (droppertop_TopArm.j1 k y0 y1 y2 y3 y4 y5 y6 y7 y8 y9 y10 y11 y12 y13) (droppertop_TopArm.j1 (k + 1) y0 y1 y2 y3 y4 y5 y6 y7 y8 y9 y10 y11 y12 y13)) ∧ (∀ y0 y1 y2 y3 y4 y5 y6, LeO (droppertop_TopArm.j2 k y0 y1 y2 y3 y4 y5 y6) (droppertop_TopArm.j2 (k + 1) y0 y1 y2 y3 y4 y5 y6)) ∧ (∀ y0 y1 y2 y3 y4 y5 y6, LeO (droppertop_TopArm.j3 k y0 y1 y2 y3 y4 y5 y6) (droppertop_TopArm.j3 (k + 1) y0 y1 y2 y3 y4 y5 y6)) ∧ (∀ y0 y1 y2 y3 y4 y5 y6 y7 y8, LeO (droppertop_TopArm.j4 k y0 y1 y2 y3 y4 y5 y6 y7 y8) (droppertop_TopArm.j4 (k + 1) y0 y1 y2 y3 y4 y5 y6 y7 y8)) ∧ (∀ y0 y1 y2 y3 y4 y5 y6 y7, LeO (droppertop_TopArm.j5 k y0 y1 y2 y3 y4 y5 y6 y7) (droppertop_TopArm.j5 (k + 1) y0 y1 y2 y3 y4 y5 y6 y7))
 | 0 => ⟨fun _ _ _ _ _ _ _ r h => by simp [droppertop_TopArm.j0] at h, fun _ _ _ _ _ _ _ _ _ _ _ _ _ _ r h => by simp [droppertop_TopArm.j1] at h, fun _ _ _ _ _ _ _ r h => by simp [droppertop_TopArm.j2] at h, fun _ _ _ _ _ _ _ r h => by simp [droppertop_TopArm.j3] at h, fun _ _ _ _ _ _ _ _ _ r h => by simp [droppertop_TopArm.j4] at h, fun _ _ _ _ _ _ _ _ r h => by simp [droppertop_TopArm.j5] at h⟩
 | k + 1 => by
  obtain ⟨ih0, ih1, ih2, ih3, ih4, ih5⟩ := droppertop_TopArm.mono_l k
  refine ⟨?_, ?_, ?_, ?_, ?_, ?_⟩
  intro y0 y1 y2 y3 y4 y5 y6; unfold droppertop_TopArm.j0; rotate_left
  intro y0 y1 y2 y3 y4 y5 y6 y7 y8 y9 y10 y11 y12 y13; unfold droppertop_TopArm.j1; rotate_left
  intro y0 y1 y2 y3 y4 y5 y6; unfold droppertop_TopArm.j2; rotate_left
  intro y0 y1 y2 y3 y4 y5 y6; unfold droppertop_TopArm.j3; rotate_left
  intro y0 y1 y2 y3 y4 y5 y6 y7 y8; unfold droppertop_TopArm.j4; rotate_left
  intro y0 y1 y2 y3 y4 y5 y6 y7; unfold droppertop_TopArm.j5; rotate_left
  all_goals repeat' first
   | (with_reducible exact ih0 _ _ _ _ _ _ _)
   | (with_reducible exact ih1 _ _ _ _ _ _ _ _ _ _ _ _ _ _)
   | (with_reducible exact ih2 _ _ _ _ _ _ _)
   | (with_reducible exact ih3 _ _ _ _ _ _ _)
   | (with_reducible exact ih4 _ _ _ _ _ _ _ _ _)
   | (with_reducible exact ih5 _ _ _ _ _ _ _ _)
   | (with_reducible exact arm_AreBlocks.mono _ _ _)
   | (with_reducible exact arm_ArePieces.mono _ _ _)
   | (with_reducible exact arm_Blocks.mono _ _)
   | (with_reducible exact arm_Forbid.mono _ _)
   | (with_reducible exact arm_Forbids.mono _ _ _ _ _)
   | (with_reducible exact arm_Line.mono _ _)
   | (with_reducible exact arm_Pieces.mono _ _)
   | (with_reducible exact arm_Through.mono _ _ _ _ _)
   | (with_reducible exact dropperlaw03_First.mono _)
   | (with_reducible exact dropperref03_AreBlocks.mono _ _ _)
   | (with_reducible exact dropperref03_ArePieces.mono _ _ _)
   | (with_reducible exact dropperref03_Through.mono _ _ _ _ _)
   | (with_reducible exact dropperref03_Valid.mono _ _)
   | (with_reducible exact droppertop_slope.mono _ _ _ _ _)
   | (with_reducible exact LeO.refl _)
   | (with_reducible exact LeO.none _)
   | (with_reducible refine LeO.ite ?_ ?_)
   | (with_reducible refine LeO.bind ?_ (fun _ => ?_))
   | exact ih0 _ _ _ _ _ _ _
   | exact ih1 _ _ _ _ _ _ _ _ _ _ _ _ _ _
   | exact ih2 _ _ _ _ _ _ _
   | exact ih3 _ _ _ _ _ _ _
   | exact ih4 _ _ _ _ _ _ _ _ _
   | exact ih5 _ _ _ _ _ _ _ _
   | exact arm_AreBlocks.mono _ _ _
   | exact arm_ArePieces.mono _ _ _
   | exact arm_Blocks.mono _ _
   | exact arm_Forbid.mono _ _
   | exact arm_Forbids.mono _ _ _ _ _
   | exact arm_Line.mono _ _
   | exact arm_Pieces.mono _ _
   | exact arm_Through.mono _ _ _ _ _
   | exact dropperlaw03_First.mono _
   | exact dropperref03_AreBlocks.mono _ _ _
   | exact dropperref03_ArePieces.mono _ _ _
   | exact dropperref03_Through.mono _ _ _ _ _
   | exact dropperref03_Valid.mono _ _
   | exact droppertop_slope.mono _ _ _ _ _
   | exact LeO.none _
   | refine LeO.ite ?_ ?_
   | refine LeO.bind ?_ (fun _ => ?_)
theorem droppertop_TopArm.mono : ∀ a0 a1 a2 a3 a4 a5 k, LeO (droppertop_TopArm.f k a0 a1 a2 a3 a4 a5) (droppertop_TopArm.f (k + 1) a0 a1 a2 a3 a4 a5) := by
 intro a0 a1 a2 a3 a4 a5 k
 obtain ⟨ih0, ih1, ih2, ih3, ih4, ih5⟩ := droppertop_TopArm.mono_l k
 unfold droppertop_TopArm.f
 repeat' first
   | (with_reducible exact ih0 _ _ _ _ _ _ _)
   | (with_reducible exact ih1 _ _ _ _ _ _ _ _ _ _ _ _ _ _)
   | (with_reducible exact ih2 _ _ _ _ _ _ _)
   | (with_reducible exact ih3 _ _ _ _ _ _ _)
   | (with_reducible exact ih4 _ _ _ _ _ _ _ _ _)
   | (with_reducible exact ih5 _ _ _ _ _ _ _ _)
   | (with_reducible exact arm_AreBlocks.mono _ _ _)
   | (with_reducible exact arm_ArePieces.mono _ _ _)
   | (with_reducible exact arm_Blocks.mono _ _)
   | (with_reducible exact arm_Forbid.mono _ _)
   | (with_reducible exact arm_Forbids.mono _ _ _ _ _)
   | (with_reducible exact arm_Line.mono _ _)
   | (with_reducible exact arm_Pieces.mono _ _)
   | (with_reducible exact arm_Through.mono _ _ _ _ _)
   | (with_reducible exact dropperlaw03_First.mono _)
   | (with_reducible exact dropperref03_AreBlocks.mono _ _ _)
   | (with_reducible exact dropperref03_ArePieces.mono _ _ _)
   | (with_reducible exact dropperref03_Through.mono _ _ _ _ _)
   | (with_reducible exact dropperref03_Valid.mono _ _)
   | (with_reducible exact droppertop_slope.mono _ _ _ _ _)
   | (with_reducible exact LeO.refl _)
   | (with_reducible exact LeO.none _)
   | (with_reducible refine LeO.ite ?_ ?_)
   | (with_reducible refine LeO.bind ?_ (fun _ => ?_))
   | exact ih0 _ _ _ _ _ _ _
   | exact ih1 _ _ _ _ _ _ _ _ _ _ _ _ _ _
   | exact ih2 _ _ _ _ _ _ _
   | exact ih3 _ _ _ _ _ _ _
   | exact ih4 _ _ _ _ _ _ _ _ _
   | exact ih5 _ _ _ _ _ _ _ _
   | exact arm_AreBlocks.mono _ _ _
   | exact arm_ArePieces.mono _ _ _
   | exact arm_Blocks.mono _ _
   | exact arm_Forbid.mono _ _
   | exact arm_Forbids.mono _ _ _ _ _
   | exact arm_Line.mono _ _
   | exact arm_Pieces.mono _ _
   | exact arm_Through.mono _ _ _ _ _
   | exact dropperlaw03_First.mono _
   | exact dropperref03_AreBlocks.mono _ _ _
   | exact dropperref03_ArePieces.mono _ _ _
   | exact dropperref03_Through.mono _ _ _ _ _
   | exact dropperref03_Valid.mono _ _
   | exact droppertop_slope.mono _ _ _ _ _
   | exact LeO.none _
   | refine LeO.ite ?_ ?_
   | refine LeO.bind ?_ (fun _ => ?_)
end Go.Proofs.Ytiapmkndgalgnaa.G
