-- Written by this session's driver (wip/tools/printmore.py) over the kit's print, with hand-written parts.
import Derived.Test.YtiebfmenkpodeaaGBase
import Derived.Test.YtiebfmenkpodeaaGF12
import Derived.Test.YtiebfmenkpodeaaGF17
import Derived.Test.YtiebfmenkpodeaaGF14
import Derived.Test.YtiebfmenkpodeaaGF18
import Derived.Test.YtiebfmenkpodeaaGF19
import Derived.Test.YtiebfmenkpodeaaGF21
namespace Go.Proofs.Ytiebfmenkpodeaa.G
open Go.RowKit Go.Proofs.YtiebfmenkpodeaaW.PrintWords Go.Proofs.YtiebfmenkpodeaaW.PrintLast Go.Proofs.YtiebfmenkpodeaaW.PrintMore
attribute [local go_sem] max2_int min2_int max_two min_two max_three min_three max_four min_four   -- for this text's walks alone
set_option linter.unusedVariables false
set_option linter.unusedSimpArgs false

/-! ### dropperlaw04_PullFree: function 9 -/
mutual
def dropperlaw04_PullFree.j0 : Nat → Int → Int → Int → Int → Bool → Int → Int → Int → Int → Int → Int → Int → Int → Int → Option (Bool)
  | 0, _, _, _, _, _, _, _, _, _, _, _, _, _, _ => none
  | k + 1, x2, x7, x8, x10, x72, x102000, x102001, x102002, x102003, x103000, x103001, x103002, x112000, x112001 => if x72 = true then (some false) else (if x112000 ≥ 0 then (if x7 ≤ x10 then (dropperlaw04_PullFree.j1 k x2 x7 x8 x10 ((decide (x112000 ≤ (wrap64 (x102003 * x112001)))) != (decide (x10 ≤ x8))) x102000 x102001 x102002 x102003 x103000 x103001 x103002 x112000 x112001) else (dropperlaw04_PullFree.j1 k x2 x7 x8 x10 ((decide (x112000 ≤ (wrap64 (x102003 * x112001)))) != false) x102000 x102001 x102002 x102003 x103000 x103001 x103002 x112000 x112001)) else (if x7 ≤ x10 then (dropperlaw04_PullFree.j1 k x2 x7 x8 x10 (false != (decide (x10 ≤ x8))) x102000 x102001 x102002 x102003 x103000 x103001 x103002 x112000 x112001) else (dropperlaw04_PullFree.j1 k x2 x7 x8 x10 (false != false) x102000 x102001 x102002 x102003 x103000 x103001 x103002 x112000 x112001)))
def dropperlaw04_PullFree.j1 : Nat → Int → Int → Int → Int → Bool → Int → Int → Int → Int → Int → Int → Int → Int → Int → Option (Bool)
  | 0, _, _, _, _, _, _, _, _, _, _, _, _, _, _ => none
  | k + 1, x2, x7, x8, x10, x94, x102000, x102001, x102002, x102003, x103000, x103001, x103002, x112000, x112001 => if x94 = true then (some false) else (if x10 < 60 then ((pull_Height.f k x102000 x102001 x102002 x102003 (wrap64 (x10 + 1))).bind fun bt112 => (if bt112.2.2 = 0 then (if (wrap64 (bt112.1 * x112001)) > (wrap64 (x112000 * bt112.2.1)) then (some false) else (dropperlaw04_PullFree.j2 k x2 x7 x8 x102000 x102001 x102002 x102003 x103000 x103001 x103002)) else (some false))) else (dropperlaw04_PullFree.j2 k x2 x7 x8 x102000 x102001 x102002 x102003 x103000 x103001 x103002))
def dropperlaw04_PullFree.j2 : Nat → Int → Int → Int → Int → Int → Int → Int → Int → Int → Int → Option (Bool)
  | 0, _, _, _, _, _, _, _, _, _, _ => none
  | k + 1, x2, x7, x8, x102000, x102001, x102002, x102003, x103000, x103001, x103002 => if x102000 = 0 then (none) else ((pull_Free.f k (wrap64 (1 + (Int.tmod (wrap64 (x2)) x102000))) x102001 x102002 x102003).bind fun bt117 => (if bt117.2.2 = 0 then (if bt117.1 > x7 then (dropperlaw04_PullFree.j3 k true x102000 x102001 x102002 x102003 x103000 x103001 x103002) else (dropperlaw04_PullFree.j3 k (decide (bt117.2.1 < x8)) x102000 x102001 x102002 x102003 x103000 x103001 x103002)) else (dropperlaw04_PullFree.j3 k true x102000 x102001 x102002 x102003 x103000 x103001 x103002)))
def dropperlaw04_PullFree.j3 : Nat → Bool → Int → Int → Int → Int → Int → Int → Int → Option (Bool)
  | 0, _, _, _, _, _, _, _, _ => none
  | k + 1, x144, x102000, x102001, x102002, x102003, x103000, x103001, x103002 => if x144 = true then (some false) else ((pull_Longest.f k x102000 x102001 x102002 x102003 (mn (wrap64 ((Int.tmod (wrap64 (mn x103001 x103002)) 121) - 60)) (wrap64 ((Int.tmod (wrap64 (mx x103001 x103002)) 121) - 60))) (mx (wrap64 ((Int.tmod (wrap64 (mn x103001 x103002)) 121) - 60)) (wrap64 ((Int.tmod (wrap64 (mx x103001 x103002)) 121) - 60)))).bind fun bt121 => (if bt121.2 = 0 then ((pull_Free.f k bt121.1 x102001 x102002 x102003).bind fun bt123 => (if bt123.2.2 = 0 then (if (mn (wrap64 ((Int.tmod (wrap64 (mn x103001 x103002)) 121) - 60)) (wrap64 ((Int.tmod (wrap64 (mx x103001 x103002)) 121) - 60))) < bt123.1 then (if (mn (wrap64 ((Int.tmod (wrap64 (mn x103001 x103002)) 121) - 60)) (wrap64 ((Int.tmod (wrap64 (mx x103001 x103002)) 121) - 60))) < 0 then (some false) else (if (mx (wrap64 ((Int.tmod (wrap64 (mn x103001 x103002)) 121) - 60)) (wrap64 ((Int.tmod (wrap64 (mx x103001 x103002)) 121) - 60))) > bt123.2.1 then (if (mx (wrap64 ((Int.tmod (wrap64 (mn x103001 x103002)) 121) - 60)) (wrap64 ((Int.tmod (wrap64 (mx x103001 x103002)) 121) - 60))) > 0 then (some false) else (dropperlaw04_PullFree.j4 k (mn (wrap64 ((Int.tmod (wrap64 (mn x103001 x103002)) 121) - 60)) (wrap64 ((Int.tmod (wrap64 (mx x103001 x103002)) 121) - 60))) (mx (wrap64 ((Int.tmod (wrap64 (mn x103001 x103002)) 121) - 60)) (wrap64 ((Int.tmod (wrap64 (mx x103001 x103002)) 121) - 60))) x102000 x102001 x102002 x102003)) else (dropperlaw04_PullFree.j4 k (mn (wrap64 ((Int.tmod (wrap64 (mn x103001 x103002)) 121) - 60)) (wrap64 ((Int.tmod (wrap64 (mx x103001 x103002)) 121) - 60))) (mx (wrap64 ((Int.tmod (wrap64 (mn x103001 x103002)) 121) - 60)) (wrap64 ((Int.tmod (wrap64 (mx x103001 x103002)) 121) - 60))) x102000 x102001 x102002 x102003))) else (if (mx (wrap64 ((Int.tmod (wrap64 (mn x103001 x103002)) 121) - 60)) (wrap64 ((Int.tmod (wrap64 (mx x103001 x103002)) 121) - 60))) > bt123.2.1 then (if (mx (wrap64 ((Int.tmod (wrap64 (mn x103001 x103002)) 121) - 60)) (wrap64 ((Int.tmod (wrap64 (mx x103001 x103002)) 121) - 60))) > 0 then (some false) else (dropperlaw04_PullFree.j4 k (mn (wrap64 ((Int.tmod (wrap64 (mn x103001 x103002)) 121) - 60)) (wrap64 ((Int.tmod (wrap64 (mx x103001 x103002)) 121) - 60))) (mx (wrap64 ((Int.tmod (wrap64 (mn x103001 x103002)) 121) - 60)) (wrap64 ((Int.tmod (wrap64 (mx x103001 x103002)) 121) - 60))) x102000 x102001 x102002 x102003)) else (dropperlaw04_PullFree.j4 k (mn (wrap64 ((Int.tmod (wrap64 (mn x103001 x103002)) 121) - 60)) (wrap64 ((Int.tmod (wrap64 (mx x103001 x103002)) 121) - 60))) (mx (wrap64 ((Int.tmod (wrap64 (mn x103001 x103002)) 121) - 60)) (wrap64 ((Int.tmod (wrap64 (mx x103001 x103002)) 121) - 60))) x102000 x102001 x102002 x102003))) else (some false))) else (if bt121.2 = 5 then (dropperlaw04_PullFree.j4 k (mn (wrap64 ((Int.tmod (wrap64 (mn x103001 x103002)) 121) - 60)) (wrap64 ((Int.tmod (wrap64 (mx x103001 x103002)) 121) - 60))) (mx (wrap64 ((Int.tmod (wrap64 (mn x103001 x103002)) 121) - 60)) (wrap64 ((Int.tmod (wrap64 (mx x103001 x103002)) 121) - 60))) x102000 x102001 x102002 x102003) else (some false))))
def dropperlaw04_PullFree.j4 : Nat → Int → Int → Int → Int → Int → Int → Option (Bool)
  | 0, _, _, _, _, _, _ => none
  | k + 1, x18, x19, x102000, x102001, x102002, x102003 => (pull_Base.f x102000 x102001 x102002 x102003 x18 x19).bind fun bt127 => (if bt127.2 = 0 then ((pull_Free.f k x102000 x102001 bt127.1 x102003).bind fun bt129 => (if bt129.2.2 = 0 then (if x18 ≥ bt129.1 then (if x19 ≤ bt129.2.1 then ((dropperlaw04_Awake.f k).bind fun t132 => (some t132)) else (if x19 ≤ 0 then ((dropperlaw04_Awake.f k).bind fun t133 => (some t133)) else (some false))) else (if x18 ≥ 0 then (if x19 ≤ bt129.2.1 then ((dropperlaw04_Awake.f k).bind fun t134 => (some t134)) else (if x19 ≤ 0 then ((dropperlaw04_Awake.f k).bind fun t135 => (some t135)) else (some false))) else (some false))) else (some false))) else (if bt127.2 = 5 then ((dropperlaw04_Awake.f k).bind fun t136 => (some t136)) else (some false)))
end
def dropperlaw04_PullFree.f (k : Nat) (a0_0 : Int) (a0_1 : Int) (a0_2 : Int) (a0_3 : Int) (a1_0 : Int) (a1_1 : Int) (a1_2 : Int) (a2 : Int) : Option (Bool) := (dropperref04_ValidStack.f a0_0 a0_1 a0_2 a0_3).bind fun t103 => (if t103 = true then ((pull_Free.f k a0_0 a0_1 a0_2 a0_3).bind fun bt105 => ((pull_Height.f k a0_0 a0_1 a0_2 a0_3 (wrap64 ((Int.tmod (wrap64 (a1_0)) 121) - 60))).bind fun bt108 => (if bt105.2.2 = 0 then (if bt108.2.2 = 0 then (if bt105.1 < (-60) then (dropperlaw04_PullFree.j0 k a2 bt105.1 bt105.2.1 (wrap64 ((Int.tmod (wrap64 (a1_0)) 121) - 60)) true a0_0 a0_1 a0_2 a0_3 a1_0 a1_1 a1_2 bt108.1 bt108.2.1) else (if bt105.1 > 0 then (dropperlaw04_PullFree.j0 k a2 bt105.1 bt105.2.1 (wrap64 ((Int.tmod (wrap64 (a1_0)) 121) - 60)) true a0_0 a0_1 a0_2 a0_3 a1_0 a1_1 a1_2 bt108.1 bt108.2.1) else (if bt105.2.1 < 0 then (dropperlaw04_PullFree.j0 k a2 bt105.1 bt105.2.1 (wrap64 ((Int.tmod (wrap64 (a1_0)) 121) - 60)) true a0_0 a0_1 a0_2 a0_3 a1_0 a1_1 a1_2 bt108.1 bt108.2.1) else (if bt105.2.1 > 60 then (dropperlaw04_PullFree.j0 k a2 bt105.1 bt105.2.1 (wrap64 ((Int.tmod (wrap64 (a1_0)) 121) - 60)) true a0_0 a0_1 a0_2 a0_3 a1_0 a1_1 a1_2 bt108.1 bt108.2.1) else (dropperlaw04_PullFree.j0 k a2 bt105.1 bt105.2.1 (wrap64 ((Int.tmod (wrap64 (a1_0)) 121) - 60)) (decide (bt108.2.1 < 1)) a0_0 a0_1 a0_2 a0_3 a1_0 a1_1 a1_2 bt108.1 bt108.2.1))))) else (dropperlaw04_PullFree.j0 k a2 bt105.1 bt105.2.1 (wrap64 ((Int.tmod (wrap64 (a1_0)) 121) - 60)) true a0_0 a0_1 a0_2 a0_3 a1_0 a1_1 a1_2 bt108.1 bt108.2.1)) else (dropperlaw04_PullFree.j0 k a2 bt105.1 bt105.2.1 (wrap64 ((Int.tmod (wrap64 (a1_0)) 121) - 60)) true a0_0 a0_1 a0_2 a0_3 a1_0 a1_1 a1_2 bt108.1 bt108.2.1)))) else ((dropperlaw04_Awake.f k).bind fun t104 => (some t104)))
theorem dropperlaw04_PullFree.mono_l : ∀ k, (∀ y0 y1 y2 y3 y4 y5 y6 y7 y8 y9 y10 y11 y12 y13, LeO (dropperlaw04_PullFree.j0 k y0 y1 y2 y3 y4 y5 y6 y7 y8 y9 y10 y11 y12 y13) (dropperlaw04_PullFree.j0 (k + 1) y0 y1 y2 y3 y4 y5 y6 y7 y8 y9 y10 y11 y12 y13)) ∧ (∀ y0 y1 y2 y3 y4 y5 y6 y7 y8 y9 y10 y11 y12 y13, LeO (dropperlaw04_PullFree.j1 k y0 y1 y2 y3 y4 y5 y6 y7 y8 y9 y10 y11 y12 y13) (dropperlaw04_PullFree.j1 (k + 1) y0 y1 y2 y3 y4 y5 y6 y7 y8 y9 y10 y11 y12 y13)) ∧ (∀ y0 y1 y2 y3 y4 y5 y6 y7 y8 y9, LeO (dropperlaw04_PullFree.j2 k y0 y1 y2 y3 y4 y5 y6 y7 y8 y9) (dropperlaw04_PullFree.j2 (k + 1) y0 y1 y2 y3 y4 y5 y6 y7 y8 y9)) ∧ (∀ y0 y1 y2 y3 y4 y5 y6 y7, LeO (dropperlaw04_PullFree.j3 k y0 y1 y2 y3 y4 y5 y6 y7) (dropperlaw04_PullFree.j3 (k + 1) y0 y1 y2 y3 y4 y5 y6 y7)) ∧ (∀ y0 y1 y2 y3 y4 y5, LeO (dropperlaw04_PullFree.j4 k y0 y1 y2 y3 y4 y5) (dropperlaw04_PullFree.j4 (k + 1) y0 y1 y2 y3 y4 y5))
  | 0 => ⟨fun _ _ _ _ _ _ _ _ _ _ _ _ _ _ r h => by simp [dropperlaw04_PullFree.j0] at h, fun _ _ _ _ _ _ _ _ _ _ _ _ _ _ r h => by simp [dropperlaw04_PullFree.j1] at h, fun _ _ _ _ _ _ _ _ _ _ r h => by simp [dropperlaw04_PullFree.j2] at h, fun _ _ _ _ _ _ _ _ r h => by simp [dropperlaw04_PullFree.j3] at h, fun _ _ _ _ _ _ r h => by simp [dropperlaw04_PullFree.j4] at h⟩
  | k + 1 => by
    obtain ⟨ih0, ih1, ih2, ih3, ih4⟩ := dropperlaw04_PullFree.mono_l k
    refine ⟨?_, ?_, ?_, ?_, ?_⟩
    · intro y0 y1 y2 y3 y4 y5 y6 y7 y8 y9 y10 y11 y12 y13
      unfold dropperlaw04_PullFree.j0
      repeat' first
      | (with_reducible exact ih0 _ _ _ _ _ _ _ _ _ _ _ _ _ _)
      | (with_reducible exact ih1 _ _ _ _ _ _ _ _ _ _ _ _ _ _)
      | (with_reducible exact ih2 _ _ _ _ _ _ _ _ _ _)
      | (with_reducible exact ih3 _ _ _ _ _ _ _ _)
      | (with_reducible exact ih4 _ _ _ _ _ _)
      | (with_reducible exact dropperlaw04_Awake.mono _)
      | (with_reducible exact pull_Free.mono _ _ _ _ _)
      | (with_reducible exact pull_Height.mono _ _ _ _ _ _)
      | (with_reducible exact pull_Longest.mono _ _ _ _ _ _ _)
      | (with_reducible exact LeO.refl _)
      | (with_reducible exact LeO.none _)
      | (with_reducible refine LeO.ite ?_ ?_)
      | (with_reducible refine LeO.bind ?_ (fun _ => ?_))
      | exact ih0 _ _ _ _ _ _ _ _ _ _ _ _ _ _
      | exact ih1 _ _ _ _ _ _ _ _ _ _ _ _ _ _
      | exact ih2 _ _ _ _ _ _ _ _ _ _
      | exact ih3 _ _ _ _ _ _ _ _
      | exact ih4 _ _ _ _ _ _
      | exact dropperlaw04_Awake.mono _
      | exact pull_Free.mono _ _ _ _ _
      | exact pull_Height.mono _ _ _ _ _ _
      | exact pull_Longest.mono _ _ _ _ _ _ _
      | exact LeO.none _
      | refine LeO.ite ?_ ?_
      | refine LeO.bind ?_ (fun _ => ?_)
    · intro y0 y1 y2 y3 y4 y5 y6 y7 y8 y9 y10 y11 y12 y13
      unfold dropperlaw04_PullFree.j1
      repeat' first
      | (with_reducible exact ih0 _ _ _ _ _ _ _ _ _ _ _ _ _ _)
      | (with_reducible exact ih1 _ _ _ _ _ _ _ _ _ _ _ _ _ _)
      | (with_reducible exact ih2 _ _ _ _ _ _ _ _ _ _)
      | (with_reducible exact ih3 _ _ _ _ _ _ _ _)
      | (with_reducible exact ih4 _ _ _ _ _ _)
      | (with_reducible exact dropperlaw04_Awake.mono _)
      | (with_reducible exact pull_Free.mono _ _ _ _ _)
      | (with_reducible exact pull_Height.mono _ _ _ _ _ _)
      | (with_reducible exact pull_Longest.mono _ _ _ _ _ _ _)
      | (with_reducible exact LeO.refl _)
      | (with_reducible exact LeO.none _)
      | (with_reducible refine LeO.ite ?_ ?_)
      | (with_reducible refine LeO.bind ?_ (fun _ => ?_))
      | exact ih0 _ _ _ _ _ _ _ _ _ _ _ _ _ _
      | exact ih1 _ _ _ _ _ _ _ _ _ _ _ _ _ _
      | exact ih2 _ _ _ _ _ _ _ _ _ _
      | exact ih3 _ _ _ _ _ _ _ _
      | exact ih4 _ _ _ _ _ _
      | exact dropperlaw04_Awake.mono _
      | exact pull_Free.mono _ _ _ _ _
      | exact pull_Height.mono _ _ _ _ _ _
      | exact pull_Longest.mono _ _ _ _ _ _ _
      | exact LeO.none _
      | refine LeO.ite ?_ ?_
      | refine LeO.bind ?_ (fun _ => ?_)
    · intro y0 y1 y2 y3 y4 y5 y6 y7 y8 y9
      unfold dropperlaw04_PullFree.j2
      repeat' first
      | (with_reducible exact ih0 _ _ _ _ _ _ _ _ _ _ _ _ _ _)
      | (with_reducible exact ih1 _ _ _ _ _ _ _ _ _ _ _ _ _ _)
      | (with_reducible exact ih2 _ _ _ _ _ _ _ _ _ _)
      | (with_reducible exact ih3 _ _ _ _ _ _ _ _)
      | (with_reducible exact ih4 _ _ _ _ _ _)
      | (with_reducible exact dropperlaw04_Awake.mono _)
      | (with_reducible exact pull_Free.mono _ _ _ _ _)
      | (with_reducible exact pull_Height.mono _ _ _ _ _ _)
      | (with_reducible exact pull_Longest.mono _ _ _ _ _ _ _)
      | (with_reducible exact LeO.refl _)
      | (with_reducible exact LeO.none _)
      | (with_reducible refine LeO.ite ?_ ?_)
      | (with_reducible refine LeO.bind ?_ (fun _ => ?_))
      | exact ih0 _ _ _ _ _ _ _ _ _ _ _ _ _ _
      | exact ih1 _ _ _ _ _ _ _ _ _ _ _ _ _ _
      | exact ih2 _ _ _ _ _ _ _ _ _ _
      | exact ih3 _ _ _ _ _ _ _ _
      | exact ih4 _ _ _ _ _ _
      | exact dropperlaw04_Awake.mono _
      | exact pull_Free.mono _ _ _ _ _
      | exact pull_Height.mono _ _ _ _ _ _
      | exact pull_Longest.mono _ _ _ _ _ _ _
      | exact LeO.none _
      | refine LeO.ite ?_ ?_
      | refine LeO.bind ?_ (fun _ => ?_)
    · intro y0 y1 y2 y3 y4 y5 y6 y7
      unfold dropperlaw04_PullFree.j3
      repeat' first
      | (with_reducible exact ih0 _ _ _ _ _ _ _ _ _ _ _ _ _ _)
      | (with_reducible exact ih1 _ _ _ _ _ _ _ _ _ _ _ _ _ _)
      | (with_reducible exact ih2 _ _ _ _ _ _ _ _ _ _)
      | (with_reducible exact ih3 _ _ _ _ _ _ _ _)
      | (with_reducible exact ih4 _ _ _ _ _ _)
      | (with_reducible exact dropperlaw04_Awake.mono _)
      | (with_reducible exact pull_Free.mono _ _ _ _ _)
      | (with_reducible exact pull_Height.mono _ _ _ _ _ _)
      | (with_reducible exact pull_Longest.mono _ _ _ _ _ _ _)
      | (with_reducible exact LeO.refl _)
      | (with_reducible exact LeO.none _)
      | (with_reducible refine LeO.ite ?_ ?_)
      | (with_reducible refine LeO.bind ?_ (fun _ => ?_))
      | exact ih0 _ _ _ _ _ _ _ _ _ _ _ _ _ _
      | exact ih1 _ _ _ _ _ _ _ _ _ _ _ _ _ _
      | exact ih2 _ _ _ _ _ _ _ _ _ _
      | exact ih3 _ _ _ _ _ _ _ _
      | exact ih4 _ _ _ _ _ _
      | exact dropperlaw04_Awake.mono _
      | exact pull_Free.mono _ _ _ _ _
      | exact pull_Height.mono _ _ _ _ _ _
      | exact pull_Longest.mono _ _ _ _ _ _ _
      | exact LeO.none _
      | refine LeO.ite ?_ ?_
      | refine LeO.bind ?_ (fun _ => ?_)
    · intro y0 y1 y2 y3 y4 y5
      unfold dropperlaw04_PullFree.j4
      repeat' first
      | (with_reducible exact ih0 _ _ _ _ _ _ _ _ _ _ _ _ _ _)
      | (with_reducible exact ih1 _ _ _ _ _ _ _ _ _ _ _ _ _ _)
      | (with_reducible exact ih2 _ _ _ _ _ _ _ _ _ _)
      | (with_reducible exact ih3 _ _ _ _ _ _ _ _)
      | (with_reducible exact ih4 _ _ _ _ _ _)
      | (with_reducible exact dropperlaw04_Awake.mono _)
      | (with_reducible exact pull_Free.mono _ _ _ _ _)
      | (with_reducible exact pull_Height.mono _ _ _ _ _ _)
      | (with_reducible exact pull_Longest.mono _ _ _ _ _ _ _)
      | (with_reducible exact LeO.refl _)
      | (with_reducible exact LeO.none _)
      | (with_reducible refine LeO.ite ?_ ?_)
      | (with_reducible refine LeO.bind ?_ (fun _ => ?_))
      | exact ih0 _ _ _ _ _ _ _ _ _ _ _ _ _ _
      | exact ih1 _ _ _ _ _ _ _ _ _ _ _ _ _ _
      | exact ih2 _ _ _ _ _ _ _ _ _ _
      | exact ih3 _ _ _ _ _ _ _ _
      | exact ih4 _ _ _ _ _ _
      | exact dropperlaw04_Awake.mono _
      | exact pull_Free.mono _ _ _ _ _
      | exact pull_Height.mono _ _ _ _ _ _
      | exact pull_Longest.mono _ _ _ _ _ _ _
      | exact LeO.none _
      | refine LeO.ite ?_ ?_
      | refine LeO.bind ?_ (fun _ => ?_)
theorem dropperlaw04_PullFree.mono : ∀ a0 a1 a2 a3 a4 a5 a6 a7 k, LeO (dropperlaw04_PullFree.f k a0 a1 a2 a3 a4 a5 a6 a7) (dropperlaw04_PullFree.f (k + 1) a0 a1 a2 a3 a4 a5 a6 a7) := by
  intro a0 a1 a2 a3 a4 a5 a6 a7 k
  obtain ⟨ih0, ih1, ih2, ih3, ih4⟩ := dropperlaw04_PullFree.mono_l k
  unfold dropperlaw04_PullFree.f
  repeat' first
      | (with_reducible exact ih0 _ _ _ _ _ _ _ _ _ _ _ _ _ _)
      | (with_reducible exact ih1 _ _ _ _ _ _ _ _ _ _ _ _ _ _)
      | (with_reducible exact ih2 _ _ _ _ _ _ _ _ _ _)
      | (with_reducible exact ih3 _ _ _ _ _ _ _ _)
      | (with_reducible exact ih4 _ _ _ _ _ _)
      | (with_reducible exact dropperlaw04_Awake.mono _)
      | (with_reducible exact pull_Free.mono _ _ _ _ _)
      | (with_reducible exact pull_Height.mono _ _ _ _ _ _)
      | (with_reducible exact pull_Longest.mono _ _ _ _ _ _ _)
      | (with_reducible exact LeO.refl _)
      | (with_reducible exact LeO.none _)
      | (with_reducible refine LeO.ite ?_ ?_)
      | (with_reducible refine LeO.bind ?_ (fun _ => ?_))
      | exact ih0 _ _ _ _ _ _ _ _ _ _ _ _ _ _
      | exact ih1 _ _ _ _ _ _ _ _ _ _ _ _ _ _
      | exact ih2 _ _ _ _ _ _ _ _ _ _
      | exact ih3 _ _ _ _ _ _ _ _
      | exact ih4 _ _ _ _ _ _
      | exact dropperlaw04_Awake.mono _
      | exact pull_Free.mono _ _ _ _ _
      | exact pull_Height.mono _ _ _ _ _ _
      | exact pull_Longest.mono _ _ _ _ _ _ _
      | exact LeO.none _
      | refine LeO.ite ?_ ?_
      | refine LeO.bind ?_ (fun _ => ?_)
set_option maxHeartbeats 8000000 in
set_option maxRecDepth 100000 in
theorem dropperlaw04_PullFree.calls (k : Nat) (a0_0 : Int) (a0_1 : Int) (a0_2 : Int) (a0_3 : Int) (a1_0 : Int) (a1_1 : Int) (a1_2 : Int) (a2 : Int) (r : Bool) (w : World) (h : dropperlaw04_PullFree.f k a0_0 a0_1 a0_2 a0_3 a1_0 a1_1 a1_2 a2 = some r) (hT : r = true) :
    Calls Try.prog 9 #[.agg #[.int .i64 a0_0, .int .i64 a0_1, .int .i64 a0_2, .int .i64 a0_3], .agg #[.int .u8 a1_0, .int .u8 a1_1, .int .u8 a1_2], .int .u16 a2] w fun e w' => e = .returned (.bool r) ∧ Below w.heap.size w w' := by
  have hu23 := Try.underlying23
  have hu62 := Try.underlying62
  have hu25 := Try.underlying25
  have HB := Aside0.mk (Below.refl w.heap.size w)
  have H : ((dropperref04_ValidStack.f a0_0 a0_1 a0_2 a0_3).bind fun t103 => (if t103 = true then ((pull_Free.f k a0_0 a0_1 a0_2 a0_3).bind fun bt105 => ((pull_Height.f k a0_0 a0_1 a0_2 a0_3 (wrap64 ((Int.tmod (wrap64 (a1_0)) 121) - 60))).bind fun bt108 => (if bt105.2.2 = 0 then (if bt108.2.2 = 0 then (if bt105.1 < (-60) then (dropperlaw04_PullFree.j0 k a2 bt105.1 bt105.2.1 (wrap64 ((Int.tmod (wrap64 (a1_0)) 121) - 60)) true a0_0 a0_1 a0_2 a0_3 a1_0 a1_1 a1_2 bt108.1 bt108.2.1) else (if bt105.1 > 0 then (dropperlaw04_PullFree.j0 k a2 bt105.1 bt105.2.1 (wrap64 ((Int.tmod (wrap64 (a1_0)) 121) - 60)) true a0_0 a0_1 a0_2 a0_3 a1_0 a1_1 a1_2 bt108.1 bt108.2.1) else (if bt105.2.1 < 0 then (dropperlaw04_PullFree.j0 k a2 bt105.1 bt105.2.1 (wrap64 ((Int.tmod (wrap64 (a1_0)) 121) - 60)) true a0_0 a0_1 a0_2 a0_3 a1_0 a1_1 a1_2 bt108.1 bt108.2.1) else (if bt105.2.1 > 60 then (dropperlaw04_PullFree.j0 k a2 bt105.1 bt105.2.1 (wrap64 ((Int.tmod (wrap64 (a1_0)) 121) - 60)) true a0_0 a0_1 a0_2 a0_3 a1_0 a1_1 a1_2 bt108.1 bt108.2.1) else (dropperlaw04_PullFree.j0 k a2 bt105.1 bt105.2.1 (wrap64 ((Int.tmod (wrap64 (a1_0)) 121) - 60)) (decide (bt108.2.1 < 1)) a0_0 a0_1 a0_2 a0_3 a1_0 a1_1 a1_2 bt108.1 bt108.2.1))))) else (dropperlaw04_PullFree.j0 k a2 bt105.1 bt105.2.1 (wrap64 ((Int.tmod (wrap64 (a1_0)) 121) - 60)) true a0_0 a0_1 a0_2 a0_3 a1_0 a1_1 a1_2 bt108.1 bt108.2.1)) else (dropperlaw04_PullFree.j0 k a2 bt105.1 bt105.2.1 (wrap64 ((Int.tmod (wrap64 (a1_0)) 121) - 60)) true a0_0 a0_1 a0_2 a0_3 a1_0 a1_1 a1_2 bt108.1 bt108.2.1)))) else ((dropperlaw04_Awake.f k).bind fun t104 => (some t104)))) = some r := h
  clear h
  replace H := Option.bind_eq_some_iff.mp H
  obtain ⟨t103, A40, H⟩ := H
  replace H : (if t103 = true then ((pull_Free.f k a0_0 a0_1 a0_2 a0_3).bind fun bt105 => ((pull_Height.f k a0_0 a0_1 a0_2 a0_3 (wrap64 ((Int.tmod (wrap64 (a1_0)) 121) - 60))).bind fun bt108 => (if bt105.2.2 = 0 then (if bt108.2.2 = 0 then (if bt105.1 < (-60) then (dropperlaw04_PullFree.j0 k a2 bt105.1 bt105.2.1 (wrap64 ((Int.tmod (wrap64 (a1_0)) 121) - 60)) true a0_0 a0_1 a0_2 a0_3 a1_0 a1_1 a1_2 bt108.1 bt108.2.1) else (if bt105.1 > 0 then (dropperlaw04_PullFree.j0 k a2 bt105.1 bt105.2.1 (wrap64 ((Int.tmod (wrap64 (a1_0)) 121) - 60)) true a0_0 a0_1 a0_2 a0_3 a1_0 a1_1 a1_2 bt108.1 bt108.2.1) else (if bt105.2.1 < 0 then (dropperlaw04_PullFree.j0 k a2 bt105.1 bt105.2.1 (wrap64 ((Int.tmod (wrap64 (a1_0)) 121) - 60)) true a0_0 a0_1 a0_2 a0_3 a1_0 a1_1 a1_2 bt108.1 bt108.2.1) else (if bt105.2.1 > 60 then (dropperlaw04_PullFree.j0 k a2 bt105.1 bt105.2.1 (wrap64 ((Int.tmod (wrap64 (a1_0)) 121) - 60)) true a0_0 a0_1 a0_2 a0_3 a1_0 a1_1 a1_2 bt108.1 bt108.2.1) else (dropperlaw04_PullFree.j0 k a2 bt105.1 bt105.2.1 (wrap64 ((Int.tmod (wrap64 (a1_0)) 121) - 60)) (decide (bt108.2.1 < 1)) a0_0 a0_1 a0_2 a0_3 a1_0 a1_1 a1_2 bt108.1 bt108.2.1))))) else (dropperlaw04_PullFree.j0 k a2 bt105.1 bt105.2.1 (wrap64 ((Int.tmod (wrap64 (a1_0)) 121) - 60)) true a0_0 a0_1 a0_2 a0_3 a1_0 a1_1 a1_2 bt108.1 bt108.2.1)) else (dropperlaw04_PullFree.j0 k a2 bt105.1 bt105.2.1 (wrap64 ((Int.tmod (wrap64 (a1_0)) 121) - 60)) true a0_0 a0_1 a0_2 a0_3 a1_0 a1_1 a1_2 bt108.1 bt108.2.1)))) else ((dropperlaw04_Awake.f k).bind fun t104 => (some t104))) = some r := H
  have A4 := Aside0.mk A40
  clear A40
  by_cases c5 : t103 = true
  rotate_left
  · replace c5 := Bool.eq_false_iff.mpr c5
    subst c5
    have H1 : ((dropperlaw04_Awake.f k).bind fun t104 => (some t104)) = some r := by rw [if_neg (show ¬ (false = true) by decide)] at H; exact H
    clear H
    have H := H1
    clear H1
    replace H := Option.bind_eq_some_iff.mp H
    obtain ⟨t104, A2420, H⟩ := H
    replace H : (some t104) = some r := H
    have A242 := Aside0.mk A2420
    clear A2420
    clear hT
    obtain rfl := Option.some.inj H
    go_enter Try.func9, Try.ntmps9
    go_wp2_with (first | ((with_reducible refine gate_dst (N := 3) rfl ?_); refine box_event ?hg (N := 3) ?hd (cs := #[.int .i64 a0_0, .int .i64 a0_1, .int .i64 a0_2, .int .i64 a0_3]) (t := 23) ?hr ?_; (case hd => rfl); (case hg => rfl); (case hr => first | (go_simp; done) | (go_simp; rfl)); intro gb101 hg w243 hbox hb; have n0_ := Aside0.mk (below_step (by repeat (first | (with_reducible first | exact HB.out | apply below_alloc | apply pw_below_drewN | apply below_drew1) | exact HB.out)) hb); have n1_ := Aside0.mk (hbox); have n2_ := Aside0.mk ((by rw [hg]; exact (below_size (by repeat (first | (with_reducible first | exact HB.out | apply below_alloc | apply pw_below_drewN | apply below_drew1) | exact HB.out))) : w.heap.size ≤ gb101)); have n3_ := Aside0.mk ((by rw [hg]; exact (below_size (by repeat (first | (with_reducible first | exact HB.out | apply below_alloc | apply pw_below_drewN | apply below_drew1) | exact HB.out))) : w.heap.size ≤ gb101)); clear HB; have HB := n0_; have BK101 := n1_; have GW101 := n2_; have GE101 := n3_; clear n0_ n1_ n2_ n3_; clear hb hbox hg) | ((with_reducible refine gate_dst (N := 4) rfl ?_); refine box_event ?hg (N := 4) ?hd (cs := #[.int .u8 a1_0, .int .u8 a1_1, .int .u8 a1_2]) (t := 62) ?hr ?_; (case hd => rfl); (case hg => rfl); (case hr => first | (go_simp; done) | (go_simp; rfl)); intro gb102 hg w244 hbox hb; have n0_ := Aside0.mk (bkB BK101 hb); have n1_ := Aside0.mk (below_step (by repeat (first | (with_reducible first | exact HB.out | apply below_alloc | apply pw_below_drewN | apply below_drew1 | refine below_set ?_ GE101.out) | exact HB.out)) hb); have n2_ := Aside0.mk (hbox); have n3_ := Aside0.mk ((by rw [hg]; exact (below_size (by repeat (first | (with_reducible first | exact HB.out | apply below_alloc | apply pw_below_drewN | apply below_drew1 | refine below_set ?_ GE101.out) | exact HB.out))) : w.heap.size ≤ gb102)); have n4_ := Aside0.mk ((by rw [hg]; exact (below_size (by repeat (first | (with_reducible first | exact HB.out | apply below_alloc | apply pw_below_drewN | apply below_drew1 | refine below_set ?_ GE101.out) | exact HB.out))) : w.heap.size ≤ gb102)); have n5_ := Aside0.mk ((bkL BK101 hg : gb101 ≠ gb102)); have n6_ := Aside0.mk ((bkG BK101 hg : gb102 ≠ gb101)); clear BK101; clear HB; have BK101 := n0_; have HB := n1_; have BK102 := n2_; have GW102 := n3_; have GE102 := n4_; have NB101_102 := n5_; have NB102_101 := n6_; clear n0_ n1_ n2_ n3_ n4_ n5_ n6_; clear hb hbox hg; have hnb245 := NB101_102.out; have hnc245 := NB102_101.out; have hcz246_0 : w244.cell? ⟨gb101, 0, none⟩ = some (.int .i64 a0_0) := (blk_cell BK101.out 0).trans rfl; have hcz246_1 : w244.cell? ⟨gb101, 1, none⟩ = some (.int .i64 a0_1) := (blk_cell BK101.out 1).trans rfl; have hcz246_2 : w244.cell? ⟨gb101, 2, none⟩ = some (.int .i64 a0_2) := (blk_cell BK101.out 2).trans rfl; have hcz246_3 : w244.cell? ⟨gb101, 3, none⟩ = some (.int .i64 a0_3) := (blk_cell BK101.out 3).trans rfl; have hfz246_0 := blk_frozen BK101.out 0; have hfz246_1 := blk_frozen BK101.out 1; have hfz246_2 := blk_frozen BK101.out 2; have hfz246_3 := blk_frozen BK101.out 3) | (go_at_call 17; (with_reducible refine (dropperref04_ValidStack.calls a0_0 a0_1 a0_2 a0_3 false _ A4.out).mono ?_); rintro e w247 ⟨rfl, hb⟩; have n0_ := Aside0.mk (bkB BK101 hb); have n1_ := Aside0.mk (bkB BK102 hb); have n2_ := Aside0.mk (below_step (by repeat (first | (with_reducible first | exact HB.out | apply below_alloc | apply pw_below_drewN | apply below_drew1 | refine below_set ?_ GE101.out | refine below_set ?_ GE102.out) | exact HB.out)) hb); clear BK101; clear BK102; clear HB; have BK101 := n0_; have BK102 := n1_; have HB := n2_; clear n0_ n1_ n2_; (try clear hb); (try clear hb2); (try clear hk); (try clear hi)) | (go_at_call 18; (with_reducible refine (dropperlaw04_Awake.calls k  t104 _ A242.out).mono ?_); rintro e w248 ⟨rfl, hb⟩; have n0_ := Aside0.mk (bkB BK101 hb); have n1_ := Aside0.mk (bkB BK102 hb); have n2_ := Aside0.mk (below_step (by repeat (first | (with_reducible first | exact HB.out | apply below_alloc | apply pw_below_drewN | apply below_drew1 | refine below_set ?_ GE101.out | refine below_set ?_ GE102.out) | exact HB.out)) hb); clear BK101; clear BK102; clear HB; have BK101 := n0_; have BK102 := n1_; have HB := n2_; clear n0_ n1_ n2_; (try clear hb); (try clear hb2); (try clear hk); (try clear hi)))
    repeat (go_quiet (fail); try go_wp2_with (fail))
    go_ret
    exact ⟨by first | rfl | (simp [errW_none, errW_some] <;> rfl) | (simp [*, errW_none, errW_some] <;> rfl), by repeat (first | (with_reducible first | exact HB.out | apply below_alloc | apply pw_below_drewN | apply below_drew1 | refine below_set ?_ GE101.out | refine below_set ?_ GE102.out) | exact HB.out)⟩

  subst c5
  have H1 : ((pull_Free.f k a0_0 a0_1 a0_2 a0_3).bind fun bt105 => ((pull_Height.f k a0_0 a0_1 a0_2 a0_3 (wrap64 ((Int.tmod (wrap64 (a1_0)) 121) - 60))).bind fun bt108 => (if bt105.2.2 = 0 then (if bt108.2.2 = 0 then (if bt105.1 < (-60) then (dropperlaw04_PullFree.j0 k a2 bt105.1 bt105.2.1 (wrap64 ((Int.tmod (wrap64 (a1_0)) 121) - 60)) true a0_0 a0_1 a0_2 a0_3 a1_0 a1_1 a1_2 bt108.1 bt108.2.1) else (if bt105.1 > 0 then (dropperlaw04_PullFree.j0 k a2 bt105.1 bt105.2.1 (wrap64 ((Int.tmod (wrap64 (a1_0)) 121) - 60)) true a0_0 a0_1 a0_2 a0_3 a1_0 a1_1 a1_2 bt108.1 bt108.2.1) else (if bt105.2.1 < 0 then (dropperlaw04_PullFree.j0 k a2 bt105.1 bt105.2.1 (wrap64 ((Int.tmod (wrap64 (a1_0)) 121) - 60)) true a0_0 a0_1 a0_2 a0_3 a1_0 a1_1 a1_2 bt108.1 bt108.2.1) else (if bt105.2.1 > 60 then (dropperlaw04_PullFree.j0 k a2 bt105.1 bt105.2.1 (wrap64 ((Int.tmod (wrap64 (a1_0)) 121) - 60)) true a0_0 a0_1 a0_2 a0_3 a1_0 a1_1 a1_2 bt108.1 bt108.2.1) else (dropperlaw04_PullFree.j0 k a2 bt105.1 bt105.2.1 (wrap64 ((Int.tmod (wrap64 (a1_0)) 121) - 60)) (decide (bt108.2.1 < 1)) a0_0 a0_1 a0_2 a0_3 a1_0 a1_1 a1_2 bt108.1 bt108.2.1))))) else (dropperlaw04_PullFree.j0 k a2 bt105.1 bt105.2.1 (wrap64 ((Int.tmod (wrap64 (a1_0)) 121) - 60)) true a0_0 a0_1 a0_2 a0_3 a1_0 a1_1 a1_2 bt108.1 bt108.2.1)) else (dropperlaw04_PullFree.j0 k a2 bt105.1 bt105.2.1 (wrap64 ((Int.tmod (wrap64 (a1_0)) 121) - 60)) true a0_0 a0_1 a0_2 a0_3 a1_0 a1_1 a1_2 bt108.1 bt108.2.1)))) = some r := by rw [if_pos rfl] at H; exact H
  clear H
  have H := H1
  clear H1
  replace H := Option.bind_eq_some_iff.mp H
  obtain ⟨⟨t105, t106, t107⟩, A60, H⟩ := H
  replace H : ((pull_Height.f k a0_0 a0_1 a0_2 a0_3 (wrap64 ((Int.tmod (wrap64 (a1_0)) 121) - 60))).bind fun bt108 => (if t107 = 0 then (if bt108.2.2 = 0 then (if t105 < (-60) then (dropperlaw04_PullFree.j0 k a2 t105 t106 (wrap64 ((Int.tmod (wrap64 (a1_0)) 121) - 60)) true a0_0 a0_1 a0_2 a0_3 a1_0 a1_1 a1_2 bt108.1 bt108.2.1) else (if t105 > 0 then (dropperlaw04_PullFree.j0 k a2 t105 t106 (wrap64 ((Int.tmod (wrap64 (a1_0)) 121) - 60)) true a0_0 a0_1 a0_2 a0_3 a1_0 a1_1 a1_2 bt108.1 bt108.2.1) else (if t106 < 0 then (dropperlaw04_PullFree.j0 k a2 t105 t106 (wrap64 ((Int.tmod (wrap64 (a1_0)) 121) - 60)) true a0_0 a0_1 a0_2 a0_3 a1_0 a1_1 a1_2 bt108.1 bt108.2.1) else (if t106 > 60 then (dropperlaw04_PullFree.j0 k a2 t105 t106 (wrap64 ((Int.tmod (wrap64 (a1_0)) 121) - 60)) true a0_0 a0_1 a0_2 a0_3 a1_0 a1_1 a1_2 bt108.1 bt108.2.1) else (dropperlaw04_PullFree.j0 k a2 t105 t106 (wrap64 ((Int.tmod (wrap64 (a1_0)) 121) - 60)) (decide (bt108.2.1 < 1)) a0_0 a0_1 a0_2 a0_3 a1_0 a1_1 a1_2 bt108.1 bt108.2.1))))) else (dropperlaw04_PullFree.j0 k a2 t105 t106 (wrap64 ((Int.tmod (wrap64 (a1_0)) 121) - 60)) true a0_0 a0_1 a0_2 a0_3 a1_0 a1_1 a1_2 bt108.1 bt108.2.1)) else (dropperlaw04_PullFree.j0 k a2 t105 t106 (wrap64 ((Int.tmod (wrap64 (a1_0)) 121) - 60)) true a0_0 a0_1 a0_2 a0_3 a1_0 a1_1 a1_2 bt108.1 bt108.2.1))) = some r := H
  have A6 := Aside0.mk A60
  clear A60
  replace H := Option.bind_eq_some_iff.mp H
  obtain ⟨⟨t108, t109, t110⟩, A70, H⟩ := H
  replace H : (if t107 = 0 then (if t110 = 0 then (if t105 < (-60) then (dropperlaw04_PullFree.j0 k a2 t105 t106 (wrap64 ((Int.tmod (wrap64 (a1_0)) 121) - 60)) true a0_0 a0_1 a0_2 a0_3 a1_0 a1_1 a1_2 t108 t109) else (if t105 > 0 then (dropperlaw04_PullFree.j0 k a2 t105 t106 (wrap64 ((Int.tmod (wrap64 (a1_0)) 121) - 60)) true a0_0 a0_1 a0_2 a0_3 a1_0 a1_1 a1_2 t108 t109) else (if t106 < 0 then (dropperlaw04_PullFree.j0 k a2 t105 t106 (wrap64 ((Int.tmod (wrap64 (a1_0)) 121) - 60)) true a0_0 a0_1 a0_2 a0_3 a1_0 a1_1 a1_2 t108 t109) else (if t106 > 60 then (dropperlaw04_PullFree.j0 k a2 t105 t106 (wrap64 ((Int.tmod (wrap64 (a1_0)) 121) - 60)) true a0_0 a0_1 a0_2 a0_3 a1_0 a1_1 a1_2 t108 t109) else (dropperlaw04_PullFree.j0 k a2 t105 t106 (wrap64 ((Int.tmod (wrap64 (a1_0)) 121) - 60)) (decide (t109 < 1)) a0_0 a0_1 a0_2 a0_3 a1_0 a1_1 a1_2 t108 t109))))) else (dropperlaw04_PullFree.j0 k a2 t105 t106 (wrap64 ((Int.tmod (wrap64 (a1_0)) 121) - 60)) true a0_0 a0_1 a0_2 a0_3 a1_0 a1_1 a1_2 t108 t109)) else (dropperlaw04_PullFree.j0 k a2 t105 t106 (wrap64 ((Int.tmod (wrap64 (a1_0)) 121) - 60)) true a0_0 a0_1 a0_2 a0_3 a1_0 a1_1 a1_2 t108 t109)) = some r := H
  have A7 := Aside0.mk A70
  clear A70
  have HC8 := Aside0.mk H
  clear H
  go_enter Try.func9, Try.ntmps9
  go_upto_region 6 with (first | ((with_reducible refine gate_dst (N := 3) rfl ?_); refine box_event ?hg (N := 3) ?hd (cs := #[.int .i64 a0_0, .int .i64 a0_1, .int .i64 a0_2, .int .i64 a0_3]) (t := 23) ?hr ?_; (case hd => rfl); (case hg => rfl); (case hr => first | (go_simp; done) | (go_simp; rfl)); intro gb101 hg w9 hbox hb; have n0_ := Aside0.mk (below_step (by repeat (first | (with_reducible first | exact HB.out | apply below_alloc | apply pw_below_drewN | apply below_drew1) | exact HB.out)) hb); have n1_ := Aside0.mk (hbox); have n2_ := Aside0.mk ((by rw [hg]; exact (below_size (by repeat (first | (with_reducible first | exact HB.out | apply below_alloc | apply pw_below_drewN | apply below_drew1) | exact HB.out))) : w.heap.size ≤ gb101)); have n3_ := Aside0.mk ((by rw [hg]; exact (below_size (by repeat (first | (with_reducible first | exact HB.out | apply below_alloc | apply pw_below_drewN | apply below_drew1) | exact HB.out))) : w.heap.size ≤ gb101)); clear HB; have HB := n0_; have BK101 := n1_; have GW101 := n2_; have GE101 := n3_; clear n0_ n1_ n2_ n3_; clear hb hbox hg) | ((with_reducible refine gate_dst (N := 4) rfl ?_); refine box_event ?hg (N := 4) ?hd (cs := #[.int .u8 a1_0, .int .u8 a1_1, .int .u8 a1_2]) (t := 62) ?hr ?_; (case hd => rfl); (case hg => rfl); (case hr => first | (go_simp; done) | (go_simp; rfl)); intro gb102 hg w10 hbox hb; have n0_ := Aside0.mk (bkB BK101 hb); have n1_ := Aside0.mk (below_step (by repeat (first | (with_reducible first | exact HB.out | apply below_alloc | apply pw_below_drewN | apply below_drew1 | refine below_set ?_ GE101.out) | exact HB.out)) hb); have n2_ := Aside0.mk (hbox); have n3_ := Aside0.mk ((by rw [hg]; exact (below_size (by repeat (first | (with_reducible first | exact HB.out | apply below_alloc | apply pw_below_drewN | apply below_drew1 | refine below_set ?_ GE101.out) | exact HB.out))) : w.heap.size ≤ gb102)); have n4_ := Aside0.mk ((by rw [hg]; exact (below_size (by repeat (first | (with_reducible first | exact HB.out | apply below_alloc | apply pw_below_drewN | apply below_drew1 | refine below_set ?_ GE101.out) | exact HB.out))) : w.heap.size ≤ gb102)); have n5_ := Aside0.mk ((bkL BK101 hg : gb101 ≠ gb102)); have n6_ := Aside0.mk ((bkG BK101 hg : gb102 ≠ gb101)); clear BK101; clear HB; have BK101 := n0_; have HB := n1_; have BK102 := n2_; have GW102 := n3_; have GE102 := n4_; have NB101_102 := n5_; have NB102_101 := n6_; clear n0_ n1_ n2_ n3_ n4_ n5_ n6_; clear hb hbox hg; have hnb11 := NB101_102.out; have hnc11 := NB102_101.out; have hcz12_0 : w10.cell? ⟨gb101, 0, none⟩ = some (.int .i64 a0_0) := (blk_cell BK101.out 0).trans rfl; have hcz12_1 : w10.cell? ⟨gb101, 1, none⟩ = some (.int .i64 a0_1) := (blk_cell BK101.out 1).trans rfl; have hcz12_2 : w10.cell? ⟨gb101, 2, none⟩ = some (.int .i64 a0_2) := (blk_cell BK101.out 2).trans rfl; have hcz12_3 : w10.cell? ⟨gb101, 3, none⟩ = some (.int .i64 a0_3) := (blk_cell BK101.out 3).trans rfl; have hfz12_0 := blk_frozen BK101.out 0; have hfz12_1 := blk_frozen BK101.out 1; have hfz12_2 := blk_frozen BK101.out 2; have hfz12_3 := blk_frozen BK101.out 3) | (go_at_call 17; (with_reducible refine (dropperref04_ValidStack.calls a0_0 a0_1 a0_2 a0_3 true _ A4.out).mono ?_); rintro e w13 ⟨rfl, hb⟩; have n0_ := Aside0.mk (bkB BK101 hb); have n1_ := Aside0.mk (bkB BK102 hb); have n2_ := Aside0.mk (below_step (by repeat (first | (with_reducible first | exact HB.out | apply below_alloc | apply pw_below_drewN | apply below_drew1 | refine below_set ?_ GE101.out | refine below_set ?_ GE102.out) | exact HB.out)) hb); clear BK101; clear BK102; clear HB; have BK101 := n0_; have BK102 := n1_; have HB := n2_; clear n0_ n1_ n2_; (try clear hb); (try clear hb2); (try clear hk); (try clear hi); have hcz14_0 : w13.cell? ⟨gb101, 0, none⟩ = some (.int .i64 a0_0) := (blk_cell BK101.out 0).trans rfl; have hcz14_1 : w13.cell? ⟨gb101, 1, none⟩ = some (.int .i64 a0_1) := (blk_cell BK101.out 1).trans rfl; have hcz14_2 : w13.cell? ⟨gb101, 2, none⟩ = some (.int .i64 a0_2) := (blk_cell BK101.out 2).trans rfl; have hcz14_3 : w13.cell? ⟨gb101, 3, none⟩ = some (.int .i64 a0_3) := (blk_cell BK101.out 3).trans rfl; have hfz14_0 := blk_frozen BK101.out 0; have hfz14_1 := blk_frozen BK101.out 1; have hfz14_2 := blk_frozen BK101.out 2; have hfz14_3 := blk_frozen BK101.out 3) | (go_at_call 14; (with_reducible refine (pull_Free.calls k a0_0 a0_1 a0_2 a0_3 t105 t106 t107 _ A6.out).mono ?_); rintro e w15 ⟨rfl, hb⟩; have n0_ := Aside0.mk (bkB BK101 hb); have n1_ := Aside0.mk (bkB BK102 hb); have n2_ := Aside0.mk (below_step (by repeat (first | (with_reducible first | exact HB.out | apply below_alloc | apply pw_below_drewN | apply below_drew1 | refine below_set ?_ GE101.out | refine below_set ?_ GE102.out) | exact HB.out)) hb); clear BK101; clear BK102; clear HB; have BK101 := n0_; have BK102 := n1_; have HB := n2_; clear n0_ n1_ n2_; (try clear hb); (try clear hb2); (try clear hk); (try clear hi); have hcz16_0 : w15.cell? ⟨gb102, 0, none⟩ = some (.int .u8 a1_0) := (blk_cell BK102.out 0).trans rfl; have hcz16_1 : w15.cell? ⟨gb102, 1, none⟩ = some (.int .u8 a1_1) := (blk_cell BK102.out 1).trans rfl; have hcz16_2 : w15.cell? ⟨gb102, 2, none⟩ = some (.int .u8 a1_2) := (blk_cell BK102.out 2).trans rfl; have hfz16_0 := blk_frozen BK102.out 0; have hfz16_1 := blk_frozen BK102.out 1; have hfz16_2 := blk_frozen BK102.out 2; have hcz17_0 : w15.cell? ⟨gb101, 0, none⟩ = some (.int .i64 a0_0) := (blk_cell BK101.out 0).trans rfl; have hcz17_1 : w15.cell? ⟨gb101, 1, none⟩ = some (.int .i64 a0_1) := (blk_cell BK101.out 1).trans rfl; have hcz17_2 : w15.cell? ⟨gb101, 2, none⟩ = some (.int .i64 a0_2) := (blk_cell BK101.out 2).trans rfl; have hcz17_3 : w15.cell? ⟨gb101, 3, none⟩ = some (.int .i64 a0_3) := (blk_cell BK101.out 3).trans rfl; have hfz17_0 := blk_frozen BK101.out 0; have hfz17_1 := blk_frozen BK101.out 1; have hfz17_2 := blk_frozen BK101.out 2; have hfz17_3 := blk_frozen BK101.out 3) | (go_at_call 12; (with_reducible refine (pull_Height.calls k a0_0 a0_1 a0_2 a0_3 (wrap64 ((Int.tmod (wrap64 (a1_0)) 121) - 60)) t108 t109 t110 _ A7.out).mono ?_); rintro e w18 ⟨rfl, hb⟩; have n0_ := Aside0.mk (bkB BK101 hb); have n1_ := Aside0.mk (bkB BK102 hb); have n2_ := Aside0.mk (below_step (by repeat (first | (with_reducible first | exact HB.out | apply below_alloc | apply pw_below_drewN | apply below_drew1 | refine below_set ?_ GE101.out | refine below_set ?_ GE102.out) | exact HB.out)) hb); clear BK101; clear BK102; clear HB; have BK101 := n0_; have BK102 := n1_; have HB := n2_; clear n0_ n1_ n2_; (try clear hb); (try clear hb2); (try clear hk); (try clear hi)) | ((with_reducible refine gate_dst (N := 11) rfl ?_); refine box_event ?hg (N := 11) ?hd (cs := #[.int .i64 0, .int .i64 0]) (t := 25) ?hr ?_; (case hd => rfl); (case hg => rfl); (case hr => first | (go_simp; done) | (go_simp; rfl)); intro gb111 hg w19 hbox hb; have n0_ := Aside0.mk (bkB BK101 hb); have n1_ := Aside0.mk (bkB BK102 hb); have n2_ := Aside0.mk (below_step (by repeat (first | (with_reducible first | exact HB.out | apply below_alloc | apply pw_below_drewN | apply below_drew1 | refine below_set ?_ GE101.out | refine below_set ?_ GE102.out) | exact HB.out)) hb); have n3_ := Aside0.mk (hbox); have n4_ := Aside0.mk ((by rw [hg]; exact (below_size (by repeat (first | (with_reducible first | exact HB.out | apply below_alloc | apply pw_below_drewN | apply below_drew1 | refine below_set ?_ GE101.out | refine below_set ?_ GE102.out) | exact HB.out))) : w.heap.size ≤ gb111)); have n5_ := Aside0.mk ((by rw [hg]; exact (below_size (by repeat (first | (with_reducible first | exact HB.out | apply below_alloc | apply pw_below_drewN | apply below_drew1 | refine below_set ?_ GE101.out | refine below_set ?_ GE102.out) | exact HB.out))) : w.heap.size ≤ gb111)); have n6_ := Aside0.mk ((bkL BK101 hg : gb101 ≠ gb111)); have n7_ := Aside0.mk ((bkG BK101 hg : gb111 ≠ gb101)); have n8_ := Aside0.mk ((bkL BK102 hg : gb102 ≠ gb111)); have n9_ := Aside0.mk ((bkG BK102 hg : gb111 ≠ gb102)); clear BK101; clear BK102; clear HB; have BK101 := n0_; have BK102 := n1_; have HB := n2_; have BK111 := n3_; have GW111 := n4_; have GE111 := n5_; have NB101_111 := n6_; have NB111_101 := n7_; have NB102_111 := n8_; have NB111_102 := n9_; clear n0_ n1_ n2_ n3_ n4_ n5_ n6_ n7_ n8_ n9_; clear hb hbox hg; have hnb20 := NB111_101.out; have hnc20 := NB101_111.out; have hnb21 := NB111_102.out; have hnc21 := NB102_111.out; have hcz22_0 : w19.cell? ⟨gb111, 0, none⟩ = some (.int .i64 0) := (blk_cell BK111.out 0).trans rfl; have hcz22_1 : w19.cell? ⟨gb111, 1, none⟩ = some (.int .i64 0) := (blk_cell BK111.out 1).trans rfl; have hfz22_0 := blk_frozen BK111.out 0; have hfz22_1 := blk_frozen BK111.out 1))
  repeat (go_quiet (fail); go_upto_region 6 with (fail))
  (try simp only [Act.put, List.setIfInBounds_toArray, List.set_cons_zero, List.set_cons_succ])
  go_cut [72] (fun v72 wc => ∃ (kq : Nat) (x72_7 : Bool), v72 = .bool x72_7 ∧ Aside0 (dropperlaw04_PullFree.j0 kq a2 t105 t106 (wrap64 ((Int.tmod (wrap64 (a1_0)) 121) - 60)) x72_7 a0_0 a0_1 a0_2 a0_3 a1_0 a1_1 a1_2 t108 t109 = some r) ∧ Aside0 (kq ≤ k) ∧ Aside0 (wc.heap[gb101]? = some (.cells #[.int .i64 a0_0, .int .i64 a0_1, .int .i64 a0_2, .int .i64 a0_3] 23 (0, 0))) ∧ Aside0 (wc.heap[gb102]? = some (.cells #[.int .u8 a1_0, .int .u8 a1_1, .int .u8 a1_2] 62 (0, 0))) ∧ Aside0 (wc.heap[gb111]? = some (.cells #[.int .i64 t108, .int .i64 t109] 25 (0, 0))) ∧ Aside0 (Below w.heap.size w wc))
  case first =>
    as_aux_lemma =>
    have H := HC8.out
    clear HC8
    by_cases c23 : t107 = 0
    rotate_left
    · rw [if_neg c23] at H
      have c23b0 : (t107 == 0) = false := beq_eq_false_iff_ne.mpr c23
      have c23b1 : (t107 != 0) = true := bne_iff_ne.mpr c23
      (first | rw [c23b0] | (simp only [i64_w, i32_w]; rw [c23b0]) | skip)
      have H' := Aside0.mk H
      clear H
      go_wp2
      repeat (go_quiet (fail); try go_wp2)
      go_meet
      case rel => exact ⟨_, (true), (by first | rfl | (simp; done) | (simp [*]; done)), H', ⟨by first | omega | exact Nat.le_refl _⟩, ⟨by (with_reducible repeat (first | refine blk_drewN ?_ _ | refine blk_drew ?_ | refine blk_alloc ?_ _)); refine blk_far ?_ NB101_111.out _; (with_reducible repeat (first | refine blk_drewN ?_ _ | refine blk_drew ?_ | refine blk_alloc ?_ _)); refine blk_far ?_ NB101_111.out _; (with_reducible repeat (first | refine blk_drewN ?_ _ | refine blk_drew ?_ | refine blk_alloc ?_ _)); exact BK101.out⟩, ⟨by (with_reducible repeat (first | refine blk_drewN ?_ _ | refine blk_drew ?_ | refine blk_alloc ?_ _)); refine blk_far ?_ NB102_111.out _; (with_reducible repeat (first | refine blk_drewN ?_ _ | refine blk_drew ?_ | refine blk_alloc ?_ _)); refine blk_far ?_ NB102_111.out _; (with_reducible repeat (first | refine blk_drewN ?_ _ | refine blk_drew ?_ | refine blk_alloc ?_ _)); exact BK102.out⟩, ⟨by (with_reducible repeat (first | refine blk_drewN ?_ _ | refine blk_drew ?_ | refine blk_alloc ?_ _)); refine blk_put (cs := #[.int .i64 t108, .int .i64 0]) ?_ 1 _ rfl; (with_reducible repeat (first | refine blk_drewN ?_ _ | refine blk_drew ?_ | refine blk_alloc ?_ _)); refine blk_put (cs := #[.int .i64 0, .int .i64 0]) ?_ 0 _ rfl; (with_reducible repeat (first | refine blk_drewN ?_ _ | refine blk_drew ?_ | refine blk_alloc ?_ _)); exact BK111.out⟩, ⟨by repeat (first | (with_reducible first | exact HB.out | apply below_alloc | apply pw_below_drewN | apply below_drew1 | refine below_set ?_ GE101.out | refine below_set ?_ GE102.out | refine below_set ?_ GE111.out) | exact HB.out)⟩⟩
    rw [if_pos c23] at H
    have c23b0 : (t107 == 0) = true := beq_iff_eq.mpr c23
    have c23b1 : (t107 != 0) = false := bne_eq_false_iff_eq.mpr c23
    clear c23
    (first | rw [c23b0] | (simp only [i64_w, i32_w]; rw [c23b0]) | skip)
    by_cases c24 : t110 = 0
    rotate_left
    · rw [if_neg c24] at H
      have c24b0 : (t110 == 0) = false := beq_eq_false_iff_ne.mpr c24
      have c24b1 : (t110 != 0) = true := bne_iff_ne.mpr c24
      have H' := Aside0.mk H
      clear H
      go_wp2
      repeat (go_quiet (fail); try go_wp2)
      go_meet
      case rel => exact ⟨_, (true), (by first | rfl | (simp; done) | (simp [*]; done)), H', ⟨by first | omega | exact Nat.le_refl _⟩, ⟨by (with_reducible repeat (first | refine blk_drewN ?_ _ | refine blk_drew ?_ | refine blk_alloc ?_ _)); refine blk_far ?_ NB101_111.out _; (with_reducible repeat (first | refine blk_drewN ?_ _ | refine blk_drew ?_ | refine blk_alloc ?_ _)); refine blk_far ?_ NB101_111.out _; (with_reducible repeat (first | refine blk_drewN ?_ _ | refine blk_drew ?_ | refine blk_alloc ?_ _)); exact BK101.out⟩, ⟨by (with_reducible repeat (first | refine blk_drewN ?_ _ | refine blk_drew ?_ | refine blk_alloc ?_ _)); refine blk_far ?_ NB102_111.out _; (with_reducible repeat (first | refine blk_drewN ?_ _ | refine blk_drew ?_ | refine blk_alloc ?_ _)); refine blk_far ?_ NB102_111.out _; (with_reducible repeat (first | refine blk_drewN ?_ _ | refine blk_drew ?_ | refine blk_alloc ?_ _)); exact BK102.out⟩, ⟨by (with_reducible repeat (first | refine blk_drewN ?_ _ | refine blk_drew ?_ | refine blk_alloc ?_ _)); refine blk_put (cs := #[.int .i64 t108, .int .i64 0]) ?_ 1 _ rfl; (with_reducible repeat (first | refine blk_drewN ?_ _ | refine blk_drew ?_ | refine blk_alloc ?_ _)); refine blk_put (cs := #[.int .i64 0, .int .i64 0]) ?_ 0 _ rfl; (with_reducible repeat (first | refine blk_drewN ?_ _ | refine blk_drew ?_ | refine blk_alloc ?_ _)); exact BK111.out⟩, ⟨by repeat (first | (with_reducible first | exact HB.out | apply below_alloc | apply pw_below_drewN | apply below_drew1 | refine below_set ?_ GE101.out | refine below_set ?_ GE102.out | refine below_set ?_ GE111.out) | exact HB.out)⟩⟩
    rw [if_pos c24] at H
    have c24b0 : (t110 == 0) = true := beq_iff_eq.mpr c24
    have c24b1 : (t110 != 0) = false := bne_eq_false_iff_eq.mpr c24
    clear c24
    by_cases c25 : t105 < (-60)
    · rw [if_pos c25] at H
      have c25b0 : decide (t105 < (-60)) = true := decide_eq_true c25
      clear c25
      have H' := Aside0.mk H
      clear H
      go_wp2
      repeat (go_quiet (fail); try go_wp2)
      go_meet
      case rel => exact ⟨_, (true), (by first | rfl | (simp; done) | (simp [*]; done)), H', ⟨by first | omega | exact Nat.le_refl _⟩, ⟨by (with_reducible repeat (first | refine blk_drewN ?_ _ | refine blk_drew ?_ | refine blk_alloc ?_ _)); refine blk_far ?_ NB101_111.out _; (with_reducible repeat (first | refine blk_drewN ?_ _ | refine blk_drew ?_ | refine blk_alloc ?_ _)); refine blk_far ?_ NB101_111.out _; (with_reducible repeat (first | refine blk_drewN ?_ _ | refine blk_drew ?_ | refine blk_alloc ?_ _)); exact BK101.out⟩, ⟨by (with_reducible repeat (first | refine blk_drewN ?_ _ | refine blk_drew ?_ | refine blk_alloc ?_ _)); refine blk_far ?_ NB102_111.out _; (with_reducible repeat (first | refine blk_drewN ?_ _ | refine blk_drew ?_ | refine blk_alloc ?_ _)); refine blk_far ?_ NB102_111.out _; (with_reducible repeat (first | refine blk_drewN ?_ _ | refine blk_drew ?_ | refine blk_alloc ?_ _)); exact BK102.out⟩, ⟨by (with_reducible repeat (first | refine blk_drewN ?_ _ | refine blk_drew ?_ | refine blk_alloc ?_ _)); refine blk_put (cs := #[.int .i64 t108, .int .i64 0]) ?_ 1 _ rfl; (with_reducible repeat (first | refine blk_drewN ?_ _ | refine blk_drew ?_ | refine blk_alloc ?_ _)); refine blk_put (cs := #[.int .i64 0, .int .i64 0]) ?_ 0 _ rfl; (with_reducible repeat (first | refine blk_drewN ?_ _ | refine blk_drew ?_ | refine blk_alloc ?_ _)); exact BK111.out⟩, ⟨by repeat (first | (with_reducible first | exact HB.out | apply below_alloc | apply pw_below_drewN | apply below_drew1 | refine below_set ?_ GE101.out | refine below_set ?_ GE102.out | refine below_set ?_ GE111.out) | exact HB.out)⟩⟩
    rw [if_neg c25] at H
    have c25b0 : decide (t105 < (-60)) = false := decide_eq_false c25
    clear c25
    by_cases c26 : t105 > 0
    · rw [if_pos c26] at H
      have c26b0 : decide (0 < t105) = true := decide_eq_true c26
      clear c26
      have H' := Aside0.mk H
      clear H
      go_wp2
      repeat (go_quiet (fail); try go_wp2)
      go_meet
      case rel => exact ⟨_, (true), (by first | rfl | (simp; done) | (simp [*]; done)), H', ⟨by first | omega | exact Nat.le_refl _⟩, ⟨by (with_reducible repeat (first | refine blk_drewN ?_ _ | refine blk_drew ?_ | refine blk_alloc ?_ _)); refine blk_far ?_ NB101_111.out _; (with_reducible repeat (first | refine blk_drewN ?_ _ | refine blk_drew ?_ | refine blk_alloc ?_ _)); refine blk_far ?_ NB101_111.out _; (with_reducible repeat (first | refine blk_drewN ?_ _ | refine blk_drew ?_ | refine blk_alloc ?_ _)); exact BK101.out⟩, ⟨by (with_reducible repeat (first | refine blk_drewN ?_ _ | refine blk_drew ?_ | refine blk_alloc ?_ _)); refine blk_far ?_ NB102_111.out _; (with_reducible repeat (first | refine blk_drewN ?_ _ | refine blk_drew ?_ | refine blk_alloc ?_ _)); refine blk_far ?_ NB102_111.out _; (with_reducible repeat (first | refine blk_drewN ?_ _ | refine blk_drew ?_ | refine blk_alloc ?_ _)); exact BK102.out⟩, ⟨by (with_reducible repeat (first | refine blk_drewN ?_ _ | refine blk_drew ?_ | refine blk_alloc ?_ _)); refine blk_put (cs := #[.int .i64 t108, .int .i64 0]) ?_ 1 _ rfl; (with_reducible repeat (first | refine blk_drewN ?_ _ | refine blk_drew ?_ | refine blk_alloc ?_ _)); refine blk_put (cs := #[.int .i64 0, .int .i64 0]) ?_ 0 _ rfl; (with_reducible repeat (first | refine blk_drewN ?_ _ | refine blk_drew ?_ | refine blk_alloc ?_ _)); exact BK111.out⟩, ⟨by repeat (first | (with_reducible first | exact HB.out | apply below_alloc | apply pw_below_drewN | apply below_drew1 | refine below_set ?_ GE101.out | refine below_set ?_ GE102.out | refine below_set ?_ GE111.out) | exact HB.out)⟩⟩
    rw [if_neg c26] at H
    have c26b0 : decide (0 < t105) = false := decide_eq_false c26
    clear c26
    by_cases c27 : t106 < 0
    · rw [if_pos c27] at H
      have c27b0 : decide (t106 < 0) = true := decide_eq_true c27
      clear c27
      have H' := Aside0.mk H
      clear H
      go_wp2
      repeat (go_quiet (fail); try go_wp2)
      go_meet
      case rel => exact ⟨_, (true), (by first | rfl | (simp; done) | (simp [*]; done)), H', ⟨by first | omega | exact Nat.le_refl _⟩, ⟨by (with_reducible repeat (first | refine blk_drewN ?_ _ | refine blk_drew ?_ | refine blk_alloc ?_ _)); refine blk_far ?_ NB101_111.out _; (with_reducible repeat (first | refine blk_drewN ?_ _ | refine blk_drew ?_ | refine blk_alloc ?_ _)); refine blk_far ?_ NB101_111.out _; (with_reducible repeat (first | refine blk_drewN ?_ _ | refine blk_drew ?_ | refine blk_alloc ?_ _)); exact BK101.out⟩, ⟨by (with_reducible repeat (first | refine blk_drewN ?_ _ | refine blk_drew ?_ | refine blk_alloc ?_ _)); refine blk_far ?_ NB102_111.out _; (with_reducible repeat (first | refine blk_drewN ?_ _ | refine blk_drew ?_ | refine blk_alloc ?_ _)); refine blk_far ?_ NB102_111.out _; (with_reducible repeat (first | refine blk_drewN ?_ _ | refine blk_drew ?_ | refine blk_alloc ?_ _)); exact BK102.out⟩, ⟨by (with_reducible repeat (first | refine blk_drewN ?_ _ | refine blk_drew ?_ | refine blk_alloc ?_ _)); refine blk_put (cs := #[.int .i64 t108, .int .i64 0]) ?_ 1 _ rfl; (with_reducible repeat (first | refine blk_drewN ?_ _ | refine blk_drew ?_ | refine blk_alloc ?_ _)); refine blk_put (cs := #[.int .i64 0, .int .i64 0]) ?_ 0 _ rfl; (with_reducible repeat (first | refine blk_drewN ?_ _ | refine blk_drew ?_ | refine blk_alloc ?_ _)); exact BK111.out⟩, ⟨by repeat (first | (with_reducible first | exact HB.out | apply below_alloc | apply pw_below_drewN | apply below_drew1 | refine below_set ?_ GE101.out | refine below_set ?_ GE102.out | refine below_set ?_ GE111.out) | exact HB.out)⟩⟩
    rw [if_neg c27] at H
    have c27b0 : decide (t106 < 0) = false := decide_eq_false c27
    clear c27
    by_cases c28 : t106 > 60
    · rw [if_pos c28] at H
      have c28b0 : decide (60 < t106) = true := decide_eq_true c28
      clear c28
      have H' := Aside0.mk H
      clear H
      go_wp2
      repeat (go_quiet (fail); try go_wp2)
      go_meet
      case rel => exact ⟨_, (true), (by first | rfl | (simp; done) | (simp [*]; done)), H', ⟨by first | omega | exact Nat.le_refl _⟩, ⟨by (with_reducible repeat (first | refine blk_drewN ?_ _ | refine blk_drew ?_ | refine blk_alloc ?_ _)); refine blk_far ?_ NB101_111.out _; (with_reducible repeat (first | refine blk_drewN ?_ _ | refine blk_drew ?_ | refine blk_alloc ?_ _)); refine blk_far ?_ NB101_111.out _; (with_reducible repeat (first | refine blk_drewN ?_ _ | refine blk_drew ?_ | refine blk_alloc ?_ _)); exact BK101.out⟩, ⟨by (with_reducible repeat (first | refine blk_drewN ?_ _ | refine blk_drew ?_ | refine blk_alloc ?_ _)); refine blk_far ?_ NB102_111.out _; (with_reducible repeat (first | refine blk_drewN ?_ _ | refine blk_drew ?_ | refine blk_alloc ?_ _)); refine blk_far ?_ NB102_111.out _; (with_reducible repeat (first | refine blk_drewN ?_ _ | refine blk_drew ?_ | refine blk_alloc ?_ _)); exact BK102.out⟩, ⟨by (with_reducible repeat (first | refine blk_drewN ?_ _ | refine blk_drew ?_ | refine blk_alloc ?_ _)); refine blk_put (cs := #[.int .i64 t108, .int .i64 0]) ?_ 1 _ rfl; (with_reducible repeat (first | refine blk_drewN ?_ _ | refine blk_drew ?_ | refine blk_alloc ?_ _)); refine blk_put (cs := #[.int .i64 0, .int .i64 0]) ?_ 0 _ rfl; (with_reducible repeat (first | refine blk_drewN ?_ _ | refine blk_drew ?_ | refine blk_alloc ?_ _)); exact BK111.out⟩, ⟨by repeat (first | (with_reducible first | exact HB.out | apply below_alloc | apply pw_below_drewN | apply below_drew1 | refine below_set ?_ GE101.out | refine below_set ?_ GE102.out | refine below_set ?_ GE111.out) | exact HB.out)⟩⟩
    rw [if_neg c28] at H
    have c28b0 : decide (60 < t106) = false := decide_eq_false c28
    clear c28
    have H' := Aside0.mk H
    clear H
    have hnb29 := NB111_101.out
    have hnc29 := NB101_111.out
    have hnb30 := NB111_102.out
    have hnc30 := NB102_111.out
    have hcz31_0 : w19.cell? ⟨gb111, 0, none⟩ = some (.int .i64 0) := (blk_cell BK111.out 0).trans rfl
    have hcz31_1 : w19.cell? ⟨gb111, 1, none⟩ = some (.int .i64 0) := (blk_cell BK111.out 1).trans rfl
    have hfz31_0 := blk_frozen BK111.out 0
    have hfz31_1 := blk_frozen BK111.out 1
    go_wp2
    repeat (go_quiet (fail); try go_wp2)
    go_meet
    case rel => exact ⟨_, (decide (t109 < 1)), (by first | rfl | (simp; done) | (simp [*]; done)), H', ⟨by first | omega | exact Nat.le_refl _⟩, ⟨by (with_reducible repeat (first | refine blk_drewN ?_ _ | refine blk_drew ?_ | refine blk_alloc ?_ _)); refine blk_far ?_ NB101_111.out _; (with_reducible repeat (first | refine blk_drewN ?_ _ | refine blk_drew ?_ | refine blk_alloc ?_ _)); refine blk_far ?_ NB101_111.out _; (with_reducible repeat (first | refine blk_drewN ?_ _ | refine blk_drew ?_ | refine blk_alloc ?_ _)); exact BK101.out⟩, ⟨by (with_reducible repeat (first | refine blk_drewN ?_ _ | refine blk_drew ?_ | refine blk_alloc ?_ _)); refine blk_far ?_ NB102_111.out _; (with_reducible repeat (first | refine blk_drewN ?_ _ | refine blk_drew ?_ | refine blk_alloc ?_ _)); refine blk_far ?_ NB102_111.out _; (with_reducible repeat (first | refine blk_drewN ?_ _ | refine blk_drew ?_ | refine blk_alloc ?_ _)); exact BK102.out⟩, ⟨by (with_reducible repeat (first | refine blk_drewN ?_ _ | refine blk_drew ?_ | refine blk_alloc ?_ _)); refine blk_put (cs := #[.int .i64 t108, .int .i64 0]) ?_ 1 _ rfl; (with_reducible repeat (first | refine blk_drewN ?_ _ | refine blk_drew ?_ | refine blk_alloc ?_ _)); refine blk_put (cs := #[.int .i64 0, .int .i64 0]) ?_ 0 _ rfl; (with_reducible repeat (first | refine blk_drewN ?_ _ | refine blk_drew ?_ | refine blk_alloc ?_ _)); exact BK111.out⟩, ⟨by repeat (first | (with_reducible first | exact HB.out | apply below_alloc | apply pw_below_drewN | apply below_drew1 | refine below_set ?_ GE101.out | refine below_set ?_ GE102.out | refine below_set ?_ GE111.out) | exact HB.out)⟩⟩
  case rest =>
    as_aux_lemma =>
    clear HC8
    try clear c1
    try clear c2
    try clear p2
    try clear c3
    try clear c5
    try clear p6
    try clear c9
    try clear c11
    try clear c20
    try clear c21
    try clear c23
    try clear c23b0
    try clear c23b1
    try clear c24
    try clear c24b0
    try clear c24b1
    try clear c25
    try clear c25b0
    try clear c26
    try clear c26b0
    try clear c27
    try clear c27b0
    try clear c28
    try clear c28b0
    try clear c29
    try clear c30
    try clear hcz12_0
    try clear hcz12_1
    try clear hcz12_2
    try clear hcz12_3
    try clear hcz14_0
    try clear hcz14_1
    try clear hcz14_2
    try clear hcz14_3
    try clear hcz16_0
    try clear hcz16_1
    try clear hcz16_2
    try clear hcz17_0
    try clear hcz17_1
    try clear hcz17_2
    try clear hcz17_3
    try clear hcz22_0
    try clear hcz22_1
    try clear hcz31_0
    try clear hcz31_1
    try clear hfz12_0
    try clear hfz12_1
    try clear hfz12_2
    try clear hfz12_3
    try clear hfz14_0
    try clear hfz14_1
    try clear hfz14_2
    try clear hfz14_3
    try clear hfz16_0
    try clear hfz16_1
    try clear hfz16_2
    try clear hfz17_0
    try clear hfz17_1
    try clear hfz17_2
    try clear hfz17_3
    try clear hfz22_0
    try clear hfz22_1
    try clear hfz31_0
    try clear hfz31_1
    obtain ⟨kq, x72_7, rfl, HA, HJ7, BK101, BK102, BK111, HB⟩ := hcut
    cases kq with
    | zero => exact absurd HA.out (by simp [dropperlaw04_PullFree.j0])
    | succ kj7 =>
      have H := HA.out
      clear HA
      simp only [dropperlaw04_PullFree.j0] at H
      by_cases c32 : x72_7 = true
      · subst c32
        have H1 : (some false) = some r := by rw [if_pos rfl] at H; exact H
        clear H
        have H := H1
        clear H1
        exact absurd (hT.symm.trans (Option.some.inj H).symm) (by decide)
      replace c32 := Bool.eq_false_iff.mpr c32
      subst c32
      have H1 : (if t108 ≥ 0 then (if t105 ≤ (wrap64 ((Int.tmod (wrap64 (a1_0)) 121) - 60)) then (dropperlaw04_PullFree.j1 kj7 a2 t105 t106 (wrap64 ((Int.tmod (wrap64 (a1_0)) 121) - 60)) ((decide (t108 ≤ (wrap64 (a0_3 * t109)))) != (decide ((wrap64 ((Int.tmod (wrap64 (a1_0)) 121) - 60)) ≤ t106))) a0_0 a0_1 a0_2 a0_3 a1_0 a1_1 a1_2 t108 t109) else (dropperlaw04_PullFree.j1 kj7 a2 t105 t106 (wrap64 ((Int.tmod (wrap64 (a1_0)) 121) - 60)) ((decide (t108 ≤ (wrap64 (a0_3 * t109)))) != false) a0_0 a0_1 a0_2 a0_3 a1_0 a1_1 a1_2 t108 t109)) else (if t105 ≤ (wrap64 ((Int.tmod (wrap64 (a1_0)) 121) - 60)) then (dropperlaw04_PullFree.j1 kj7 a2 t105 t106 (wrap64 ((Int.tmod (wrap64 (a1_0)) 121) - 60)) (false != (decide ((wrap64 ((Int.tmod (wrap64 (a1_0)) 121) - 60)) ≤ t106))) a0_0 a0_1 a0_2 a0_3 a1_0 a1_1 a1_2 t108 t109) else (dropperlaw04_PullFree.j1 kj7 a2 t105 t106 (wrap64 ((Int.tmod (wrap64 (a1_0)) 121) - 60)) (false != false) a0_0 a0_1 a0_2 a0_3 a1_0 a1_1 a1_2 t108 t109))) = some r := by rw [if_neg (show ¬ (false = true) by decide)] at H; exact H
      clear H
      have H := H1
      clear H1
      have HC33 := Aside0.mk H
      clear H
      go_upto_region 8 with (fail)
      repeat (go_quiet (fail); go_upto_region 8 with (fail))
      go_cut [94] (fun v94 wc => ∃ (kq : Nat) (x94_32 : Bool), v94 = .bool x94_32 ∧ Aside0 (dropperlaw04_PullFree.j1 kq a2 t105 t106 (wrap64 ((Int.tmod (wrap64 (a1_0)) 121) - 60)) x94_32 a0_0 a0_1 a0_2 a0_3 a1_0 a1_1 a1_2 t108 t109 = some r) ∧ Aside0 (kq ≤ kj7) ∧ Aside0 (wc.heap[gb101]? = some (.cells #[.int .i64 a0_0, .int .i64 a0_1, .int .i64 a0_2, .int .i64 a0_3] 23 (0, 0))) ∧ Aside0 (wc.heap[gb102]? = some (.cells #[.int .u8 a1_0, .int .u8 a1_1, .int .u8 a1_2] 62 (0, 0))) ∧ Aside0 (wc.heap[gb111]? = some (.cells #[.int .i64 t108, .int .i64 t109] 25 (0, 0))) ∧ Aside0 (Below w.heap.size w wc))
      case first =>
        as_aux_lemma =>
        have H := HC33.out
        clear HC33
        by_cases c34 : t108 ≥ 0
        rotate_left
        · rw [if_neg c34] at H
          have c34b0 : decide (0 ≤ t108) = false := decide_eq_false c34
          clear c34
          (first | rw [c34b0] | (simp only [i64_w, i32_w]; rw [c34b0]) | skip)
          by_cases c46 : t105 ≤ (wrap64 ((Int.tmod (wrap64 (a1_0)) 121) - 60))
          rotate_left
          · rw [if_neg c46] at H
            have c46b0 : decide (t105 ≤ (wrap64 ((Int.tmod (wrap64 (a1_0)) 121) - 60))) = false := decide_eq_false c46
            clear c46
            have H' := Aside0.mk H
            clear H
            have hnb50 := NB111_101.out
            have hnc50 := NB101_111.out
            have hnb51 := NB111_102.out
            have hnc51 := NB102_111.out
            have hcz52_0 : wc.cell? ⟨gb111, 0, none⟩ = some (.int .i64 t108) := (blk_cell BK111.out 0).trans rfl
            have hcz52_1 : wc.cell? ⟨gb111, 1, none⟩ = some (.int .i64 t109) := (blk_cell BK111.out 1).trans rfl
            have hfz52_0 := blk_frozen BK111.out 0
            have hfz52_1 := blk_frozen BK111.out 1
            go_wp2
            repeat (go_quiet (fail); try go_wp2)
            go_meet
            case rel => exact ⟨_, ((false != false)), (by first | rfl | (simp; done) | (simp [*]; done)), H', ⟨by have := HJ7.out; first | omega | exact Nat.le_refl _⟩, ⟨bkU BK101⟩, ⟨bkU BK102⟩, ⟨bkU BK111⟩, ⟨by repeat (first | (with_reducible first | exact HB.out | apply below_alloc | apply pw_below_drewN | apply below_drew1 | refine below_set ?_ GE101.out | refine below_set ?_ GE102.out | refine below_set ?_ GE111.out) | exact HB.out)⟩⟩
          rw [if_pos c46] at H
          have c46b0 : decide (t105 ≤ (wrap64 ((Int.tmod (wrap64 (a1_0)) 121) - 60))) = true := decide_eq_true c46
          clear c46
          have H' := Aside0.mk H
          clear H
          have hnb47 := NB111_101.out
          have hnc47 := NB101_111.out
          have hnb48 := NB111_102.out
          have hnc48 := NB102_111.out
          have hcz49_0 : wc.cell? ⟨gb111, 0, none⟩ = some (.int .i64 t108) := (blk_cell BK111.out 0).trans rfl
          have hcz49_1 : wc.cell? ⟨gb111, 1, none⟩ = some (.int .i64 t109) := (blk_cell BK111.out 1).trans rfl
          have hfz49_0 := blk_frozen BK111.out 0
          have hfz49_1 := blk_frozen BK111.out 1
          go_wp2
          repeat (go_quiet (fail); try go_wp2)
          go_meet
          case rel => exact ⟨_, ((false != (decide ((wrap64 ((Int.tmod (wrap64 (a1_0)) 121) - 60)) ≤ t106)))), (by first | rfl | (simp; done) | (simp [*]; done)), H', ⟨by have := HJ7.out; first | omega | exact Nat.le_refl _⟩, ⟨bkU BK101⟩, ⟨bkU BK102⟩, ⟨bkU BK111⟩, ⟨by repeat (first | (with_reducible first | exact HB.out | apply below_alloc | apply pw_below_drewN | apply below_drew1 | refine below_set ?_ GE101.out | refine below_set ?_ GE102.out | refine below_set ?_ GE111.out) | exact HB.out)⟩⟩
        rw [if_pos c34] at H
        have c34b0 : decide (0 ≤ t108) = true := decide_eq_true c34
        clear c34
        (first | rw [c34b0] | (simp only [i64_w, i32_w]; rw [c34b0]) | skip)
        by_cases c35 : t105 ≤ (wrap64 ((Int.tmod (wrap64 (a1_0)) 121) - 60))
        rotate_left
        · rw [if_neg c35] at H
          have c35b0 : decide (t105 ≤ (wrap64 ((Int.tmod (wrap64 (a1_0)) 121) - 60))) = false := decide_eq_false c35
          clear c35
          have H' := Aside0.mk H
          clear H
          have hnb41 := NB111_101.out
          have hnc41 := NB101_111.out
          have hnb42 := NB111_102.out
          have hnc42 := NB102_111.out
          have hcz43_0 : wc.cell? ⟨gb111, 0, none⟩ = some (.int .i64 t108) := (blk_cell BK111.out 0).trans rfl
          have hcz43_1 : wc.cell? ⟨gb111, 1, none⟩ = some (.int .i64 t109) := (blk_cell BK111.out 1).trans rfl
          have hfz43_0 := blk_frozen BK111.out 0
          have hfz43_1 := blk_frozen BK111.out 1
          have hnb44 := NB101_102.out
          have hnc44 := NB102_101.out
          have hcz45_0 : wc.cell? ⟨gb101, 0, none⟩ = some (.int .i64 a0_0) := (blk_cell BK101.out 0).trans rfl
          have hcz45_1 : wc.cell? ⟨gb101, 1, none⟩ = some (.int .i64 a0_1) := (blk_cell BK101.out 1).trans rfl
          have hcz45_2 : wc.cell? ⟨gb101, 2, none⟩ = some (.int .i64 a0_2) := (blk_cell BK101.out 2).trans rfl
          have hcz45_3 : wc.cell? ⟨gb101, 3, none⟩ = some (.int .i64 a0_3) := (blk_cell BK101.out 3).trans rfl
          have hfz45_0 := blk_frozen BK101.out 0
          have hfz45_1 := blk_frozen BK101.out 1
          have hfz45_2 := blk_frozen BK101.out 2
          have hfz45_3 := blk_frozen BK101.out 3
          go_wp2
          repeat (go_quiet (fail); try go_wp2)
          go_meet
          case rel => exact ⟨_, (((decide (t108 ≤ (wrap64 (a0_3 * t109)))) != false)), (by first | rfl | (simp; done) | (simp [*]; done)), H', ⟨by have := HJ7.out; first | omega | exact Nat.le_refl _⟩, ⟨bkU BK101⟩, ⟨bkU BK102⟩, ⟨bkU BK111⟩, ⟨by repeat (first | (with_reducible first | exact HB.out | apply below_alloc | apply pw_below_drewN | apply below_drew1 | refine below_set ?_ GE101.out | refine below_set ?_ GE102.out | refine below_set ?_ GE111.out) | exact HB.out)⟩⟩
        rw [if_pos c35] at H
        have c35b0 : decide (t105 ≤ (wrap64 ((Int.tmod (wrap64 (a1_0)) 121) - 60))) = true := decide_eq_true c35
        clear c35
        have H' := Aside0.mk H
        clear H
        have hnb36 := NB111_101.out
        have hnc36 := NB101_111.out
        have hnb37 := NB111_102.out
        have hnc37 := NB102_111.out
        have hcz38_0 : wc.cell? ⟨gb111, 0, none⟩ = some (.int .i64 t108) := (blk_cell BK111.out 0).trans rfl
        have hcz38_1 : wc.cell? ⟨gb111, 1, none⟩ = some (.int .i64 t109) := (blk_cell BK111.out 1).trans rfl
        have hfz38_0 := blk_frozen BK111.out 0
        have hfz38_1 := blk_frozen BK111.out 1
        have hnb39 := NB101_102.out
        have hnc39 := NB102_101.out
        have hcz40_0 : wc.cell? ⟨gb101, 0, none⟩ = some (.int .i64 a0_0) := (blk_cell BK101.out 0).trans rfl
        have hcz40_1 : wc.cell? ⟨gb101, 1, none⟩ = some (.int .i64 a0_1) := (blk_cell BK101.out 1).trans rfl
        have hcz40_2 : wc.cell? ⟨gb101, 2, none⟩ = some (.int .i64 a0_2) := (blk_cell BK101.out 2).trans rfl
        have hcz40_3 : wc.cell? ⟨gb101, 3, none⟩ = some (.int .i64 a0_3) := (blk_cell BK101.out 3).trans rfl
        have hfz40_0 := blk_frozen BK101.out 0
        have hfz40_1 := blk_frozen BK101.out 1
        have hfz40_2 := blk_frozen BK101.out 2
        have hfz40_3 := blk_frozen BK101.out 3
        go_wp2
        repeat (go_quiet (fail); try go_wp2)
        go_meet
        case rel => exact ⟨_, (((decide (t108 ≤ (wrap64 (a0_3 * t109)))) != (decide ((wrap64 ((Int.tmod (wrap64 (a1_0)) 121) - 60)) ≤ t106)))), (by first | rfl | (simp; done) | (simp [*]; done)), H', ⟨by have := HJ7.out; first | omega | exact Nat.le_refl _⟩, ⟨bkU BK101⟩, ⟨bkU BK102⟩, ⟨bkU BK111⟩, ⟨by repeat (first | (with_reducible first | exact HB.out | apply below_alloc | apply pw_below_drewN | apply below_drew1 | refine below_set ?_ GE101.out | refine below_set ?_ GE102.out | refine below_set ?_ GE111.out) | exact HB.out)⟩⟩
      case rest =>
        as_aux_lemma =>
        clear HC33
        try clear c1
        try clear c2
        try clear p2
        try clear c3
        try clear c4
        try clear c5
        try clear p6
        try clear c9
        try clear c11
        try clear c20
        try clear c21
        try clear c23
        try clear c23b0
        try clear c23b1
        try clear c24
        try clear c24b0
        try clear c24b1
        try clear c25
        try clear c25b0
        try clear c26
        try clear c26b0
        try clear c27
        try clear c27b0
        try clear c28
        try clear c28b0
        try clear c29
        try clear c30
        try clear c32
        try clear c34
        try clear c34b0
        try clear c35
        try clear c35b0
        try clear c36
        try clear c37
        try clear c39
        try clear c41
        try clear c42
        try clear c44
        try clear c46
        try clear c46b0
        try clear c47
        try clear c48
        try clear c50
        try clear c51
        try clear hcz12_0
        try clear hcz12_1
        try clear hcz12_2
        try clear hcz12_3
        try clear hcz14_0
        try clear hcz14_1
        try clear hcz14_2
        try clear hcz14_3
        try clear hcz16_0
        try clear hcz16_1
        try clear hcz16_2
        try clear hcz17_0
        try clear hcz17_1
        try clear hcz17_2
        try clear hcz17_3
        try clear hcz22_0
        try clear hcz22_1
        try clear hcz31_0
        try clear hcz31_1
        try clear hcz38_0
        try clear hcz38_1
        try clear hcz40_0
        try clear hcz40_1
        try clear hcz40_2
        try clear hcz40_3
        try clear hcz43_0
        try clear hcz43_1
        try clear hcz45_0
        try clear hcz45_1
        try clear hcz45_2
        try clear hcz45_3
        try clear hcz49_0
        try clear hcz49_1
        try clear hcz52_0
        try clear hcz52_1
        try clear hfz12_0
        try clear hfz12_1
        try clear hfz12_2
        try clear hfz12_3
        try clear hfz14_0
        try clear hfz14_1
        try clear hfz14_2
        try clear hfz14_3
        try clear hfz16_0
        try clear hfz16_1
        try clear hfz16_2
        try clear hfz17_0
        try clear hfz17_1
        try clear hfz17_2
        try clear hfz17_3
        try clear hfz22_0
        try clear hfz22_1
        try clear hfz31_0
        try clear hfz31_1
        try clear hfz38_0
        try clear hfz38_1
        try clear hfz40_0
        try clear hfz40_1
        try clear hfz40_2
        try clear hfz40_3
        try clear hfz43_0
        try clear hfz43_1
        try clear hfz45_0
        try clear hfz45_1
        try clear hfz45_2
        try clear hfz45_3
        try clear hfz49_0
        try clear hfz49_1
        try clear hfz52_0
        try clear hfz52_1
        try clear p2
        try clear p6
        obtain ⟨kq, x94_32, rfl, HA, HJ32, BK101, BK102, BK111, HB⟩ := hcut
        cases kq with
        | zero => exact absurd HA.out (by simp [dropperlaw04_PullFree.j1])
        | succ kj32 =>
          have H := HA.out
          clear HA
          simp only [dropperlaw04_PullFree.j1] at H
          by_cases c53 : x94_32 = true
          · subst c53
            have H1 : (some false) = some r := by rw [if_pos rfl] at H; exact H
            clear H
            have H := H1
            clear H1
            exact absurd (hT.symm.trans (Option.some.inj H).symm) (by decide)
          replace c53 := Bool.eq_false_iff.mpr c53
          subst c53
          have H1 : (if (wrap64 ((Int.tmod (wrap64 (a1_0)) 121) - 60)) < 60 then ((pull_Height.f kj32 a0_0 a0_1 a0_2 a0_3 (wrap64 ((wrap64 ((Int.tmod (wrap64 (a1_0)) 121) - 60)) + 1))).bind fun bt112 => (if bt112.2.2 = 0 then (if (wrap64 (bt112.1 * t109)) > (wrap64 (t108 * bt112.2.1)) then (some false) else (dropperlaw04_PullFree.j2 kj32 a2 t105 t106 a0_0 a0_1 a0_2 a0_3 a1_0 a1_1 a1_2)) else (some false))) else (dropperlaw04_PullFree.j2 kj32 a2 t105 t106 a0_0 a0_1 a0_2 a0_3 a1_0 a1_1 a1_2)) = some r := by rw [if_neg (show ¬ (false = true) by decide)] at H; exact H
          clear H
          have H := H1
          clear H1
          have HC54 := Aside0.mk H
          clear H
          go_upto_if 96 with (fail)
          repeat (go_quiet (fail); go_upto_if 96 with (fail))
          go_cut [] (fun wc => ∃ (kq : Nat), Aside0 (dropperlaw04_PullFree.j2 kq a2 t105 t106 a0_0 a0_1 a0_2 a0_3 a1_0 a1_1 a1_2 = some r) ∧ Aside0 (kq ≤ kj32) ∧ Aside0 (wc.heap[gb101]? = some (.cells #[.int .i64 a0_0, .int .i64 a0_1, .int .i64 a0_2, .int .i64 a0_3] 23 (0, 0))) ∧ Aside0 (wc.heap[gb102]? = some (.cells #[.int .u8 a1_0, .int .u8 a1_1, .int .u8 a1_2] 62 (0, 0))) ∧ Aside0 (wc.heap[gb111]? = some (.cells #[.int .i64 t108, .int .i64 t109] 25 (0, 0))) ∧ Aside0 (Below w.heap.size w wc))
          case first =>
            as_aux_lemma =>
            have H := HC54.out
            clear HC54
            by_cases c55 : (wrap64 ((Int.tmod (wrap64 (a1_0)) 121) - 60)) < 60
            rotate_left
            · rw [if_neg c55] at H
              have c55b0 : decide ((wrap64 ((Int.tmod (wrap64 (a1_0)) 121) - 60)) < 60) = false := decide_eq_false c55
              clear c55
              (first | rw [c55b0] | (simp only [i64_w, i32_w]; rw [c55b0]) | skip)
              have H' := Aside0.mk H
              clear H
              go_wp2
              repeat (go_quiet (fail); try go_wp2)
              go_meet
              case rel => exact ⟨_, H', ⟨by have := HJ7.out; have := HJ32.out; first | omega | exact Nat.le_refl _⟩, ⟨bkU BK101⟩, ⟨bkU BK102⟩, ⟨bkU BK111⟩, ⟨by repeat (first | (with_reducible first | exact HB.out | apply below_alloc | apply pw_below_drewN | apply below_drew1 | refine below_set ?_ GE101.out | refine below_set ?_ GE102.out | refine below_set ?_ GE111.out) | exact HB.out)⟩⟩
            rw [if_pos c55] at H
            have c55b0 : decide ((wrap64 ((Int.tmod (wrap64 (a1_0)) 121) - 60)) < 60) = true := decide_eq_true c55
            clear c55
            (first | rw [c55b0] | (simp only [i64_w, i32_w]; rw [c55b0]) | skip)
            replace H := Option.bind_eq_some_iff.mp H
            obtain ⟨⟨t112, t113, t114⟩, A560, H⟩ := H
            replace H : (if t114 = 0 then (if (wrap64 (t112 * t109)) > (wrap64 (t108 * t113)) then (some false) else (dropperlaw04_PullFree.j2 kj32 a2 t105 t106 a0_0 a0_1 a0_2 a0_3 a1_0 a1_1 a1_2)) else (some false)) = some r := H
            have A56 := Aside0.mk A560
            clear A560
            by_cases c57 : t114 = 0
            rotate_left
            · rw [if_neg c57] at H
              have c57b0 : (t114 == 0) = false := beq_eq_false_iff_ne.mpr c57
              have c57b1 : (t114 != 0) = true := bne_iff_ne.mpr c57
              exact absurd (hT.symm.trans (Option.some.inj H).symm) (by decide)
            rw [if_pos c57] at H
            have c57b0 : (t114 == 0) = true := beq_iff_eq.mpr c57
            have c57b1 : (t114 != 0) = false := bne_eq_false_iff_eq.mpr c57
            clear c57
            by_cases c58 : (wrap64 (t112 * t109)) > (wrap64 (t108 * t113))
            · rw [if_pos c58] at H
              have c58b0 : decide ((wrap64 (t108 * t113)) < (wrap64 (t112 * t109))) = true := decide_eq_true c58
              clear c58
              exact absurd (hT.symm.trans (Option.some.inj H).symm) (by decide)
            rw [if_neg c58] at H
            have c58b0 : decide ((wrap64 (t108 * t113)) < (wrap64 (t112 * t109))) = false := decide_eq_false c58
            clear c58
            have H' := Aside0.mk H
            clear H
            have hnb59 := NB101_102.out
            have hnc59 := NB102_101.out
            have hnb60 := NB101_111.out
            have hnc60 := NB111_101.out
            have hcz61_0 : wc.cell? ⟨gb101, 0, none⟩ = some (.int .i64 a0_0) := (blk_cell BK101.out 0).trans rfl
            have hcz61_1 : wc.cell? ⟨gb101, 1, none⟩ = some (.int .i64 a0_1) := (blk_cell BK101.out 1).trans rfl
            have hcz61_2 : wc.cell? ⟨gb101, 2, none⟩ = some (.int .i64 a0_2) := (blk_cell BK101.out 2).trans rfl
            have hcz61_3 : wc.cell? ⟨gb101, 3, none⟩ = some (.int .i64 a0_3) := (blk_cell BK101.out 3).trans rfl
            have hfz61_0 := blk_frozen BK101.out 0
            have hfz61_1 := blk_frozen BK101.out 1
            have hfz61_2 := blk_frozen BK101.out 2
            have hfz61_3 := blk_frozen BK101.out 3
            go_wp2_with (first | (go_at_call 12; (with_reducible refine (pull_Height.calls kj32 a0_0 a0_1 a0_2 a0_3 (wrap64 ((wrap64 ((Int.tmod (wrap64 (a1_0)) 121) - 60)) + 1)) t112 t113 t114 _ A56.out).mono ?_); rintro e w62 ⟨rfl, hb⟩; have n0_ := Aside0.mk (bkB BK101 hb); have n1_ := Aside0.mk (bkB BK102 hb); have n2_ := Aside0.mk (bkB BK111 hb); have n3_ := Aside0.mk (below_step (by repeat (first | (with_reducible first | exact HB.out | apply below_alloc | apply pw_below_drewN | apply below_drew1 | refine below_set ?_ GE101.out | refine below_set ?_ GE102.out | refine below_set ?_ GE111.out) | exact HB.out)) hb); clear BK101; clear BK102; clear BK111; clear HB; have BK101 := n0_; have BK102 := n1_; have BK111 := n2_; have HB := n3_; clear n0_ n1_ n2_ n3_; (try clear hb); (try clear hb2); (try clear hk); (try clear hi)) | ((with_reducible refine gate_dst (N := 13) rfl ?_); refine box_event ?hg (N := 13) ?hd (cs := #[.int .i64 0, .int .i64 0]) (t := 25) ?hr ?_; (case hd => rfl); (case hg => rfl); (case hr => first | (go_simp; done) | (go_simp; rfl)); intro gb115 hg w63 hbox hb; have n0_ := Aside0.mk (bkB BK101 hb); have n1_ := Aside0.mk (bkB BK102 hb); have n2_ := Aside0.mk (bkB BK111 hb); have n3_ := Aside0.mk (below_step (by repeat (first | (with_reducible first | exact HB.out | apply below_alloc | apply pw_below_drewN | apply below_drew1 | refine below_set ?_ GE101.out | refine below_set ?_ GE102.out | refine below_set ?_ GE111.out) | exact HB.out)) hb); have n4_ := Aside0.mk (hbox); have n5_ := Aside0.mk ((by rw [hg]; exact (below_size (by repeat (first | (with_reducible first | exact HB.out | apply below_alloc | apply pw_below_drewN | apply below_drew1 | refine below_set ?_ GE101.out | refine below_set ?_ GE102.out | refine below_set ?_ GE111.out) | exact HB.out))) : w.heap.size ≤ gb115)); have n6_ := Aside0.mk ((by rw [hg]; exact (below_size (by repeat (first | (with_reducible first | exact HB.out | apply below_alloc | apply pw_below_drewN | apply below_drew1 | refine below_set ?_ GE101.out | refine below_set ?_ GE102.out | refine below_set ?_ GE111.out) | exact HB.out))) : w.heap.size ≤ gb115)); have n7_ := Aside0.mk ((bkL BK101 hg : gb101 ≠ gb115)); have n8_ := Aside0.mk ((bkG BK101 hg : gb115 ≠ gb101)); have n9_ := Aside0.mk ((bkL BK102 hg : gb102 ≠ gb115)); have n10_ := Aside0.mk ((bkG BK102 hg : gb115 ≠ gb102)); have n11_ := Aside0.mk ((bkL BK111 hg : gb111 ≠ gb115)); have n12_ := Aside0.mk ((bkG BK111 hg : gb115 ≠ gb111)); clear BK101; clear BK102; clear BK111; clear HB; have BK101 := n0_; have BK102 := n1_; have BK111 := n2_; have HB := n3_; have BK115 := n4_; have GW115 := n5_; have GE115 := n6_; have NB101_115 := n7_; have NB115_101 := n8_; have NB102_115 := n9_; have NB115_102 := n10_; have NB111_115 := n11_; have NB115_111 := n12_; clear n0_ n1_ n2_ n3_ n4_ n5_ n6_ n7_ n8_ n9_ n10_ n11_ n12_; clear hb hbox hg; have hnb64 := NB115_101.out; have hnc64 := NB101_115.out; have hnb65 := NB115_102.out; have hnc65 := NB102_115.out; have hnb66 := NB115_111.out; have hnc66 := NB111_115.out; have hcz67_0 : w63.cell? ⟨gb115, 0, none⟩ = some (.int .i64 0) := (blk_cell BK115.out 0).trans rfl; have hcz67_1 : w63.cell? ⟨gb115, 1, none⟩ = some (.int .i64 0) := (blk_cell BK115.out 1).trans rfl; have hfz67_0 := blk_frozen BK115.out 0; have hfz67_1 := blk_frozen BK115.out 1; have hnb68 := NB111_102.out; have hnc68 := NB102_111.out; have hcz69_0 : w63.cell? ⟨gb111, 0, none⟩ = some (.int .i64 t108) := (blk_cell BK111.out 0).trans rfl; have hcz69_1 : w63.cell? ⟨gb111, 1, none⟩ = some (.int .i64 t109) := (blk_cell BK111.out 1).trans rfl; have hfz69_0 := blk_frozen BK111.out 0; have hfz69_1 := blk_frozen BK111.out 1))
            repeat (go_quiet (fail); try go_wp2_with (fail))
            go_meet
            case rel => exact ⟨_, H', ⟨by have := HJ7.out; have := HJ32.out; first | omega | exact Nat.le_refl _⟩, ⟨by (with_reducible repeat (first | refine blk_drewN ?_ _ | refine blk_drew ?_ | refine blk_alloc ?_ _)); refine blk_far ?_ NB101_115.out _; (with_reducible repeat (first | refine blk_drewN ?_ _ | refine blk_drew ?_ | refine blk_alloc ?_ _)); refine blk_far ?_ NB101_115.out _; (with_reducible repeat (first | refine blk_drewN ?_ _ | refine blk_drew ?_ | refine blk_alloc ?_ _)); exact BK101.out⟩, ⟨by (with_reducible repeat (first | refine blk_drewN ?_ _ | refine blk_drew ?_ | refine blk_alloc ?_ _)); refine blk_far ?_ NB102_115.out _; (with_reducible repeat (first | refine blk_drewN ?_ _ | refine blk_drew ?_ | refine blk_alloc ?_ _)); refine blk_far ?_ NB102_115.out _; (with_reducible repeat (first | refine blk_drewN ?_ _ | refine blk_drew ?_ | refine blk_alloc ?_ _)); exact BK102.out⟩, ⟨by (with_reducible repeat (first | refine blk_drewN ?_ _ | refine blk_drew ?_ | refine blk_alloc ?_ _)); refine blk_far ?_ NB111_115.out _; (with_reducible repeat (first | refine blk_drewN ?_ _ | refine blk_drew ?_ | refine blk_alloc ?_ _)); refine blk_far ?_ NB111_115.out _; (with_reducible repeat (first | refine blk_drewN ?_ _ | refine blk_drew ?_ | refine blk_alloc ?_ _)); exact BK111.out⟩, ⟨by repeat (first | (with_reducible first | exact HB.out | apply below_alloc | apply pw_below_drewN | apply below_drew1 | refine below_set ?_ GE101.out | refine below_set ?_ GE102.out | refine below_set ?_ GE111.out | refine below_set ?_ GE115.out) | exact HB.out)⟩⟩
          case rest =>
            as_aux_lemma =>
            clear HC54
            try clear c1
            try clear c2
            try clear p2
            try clear c3
            try clear c4
            try clear c5
            try clear c6
            try clear p6
            try clear c9
            try clear c11
            try clear c20
            try clear c21
            try clear c23
            try clear c23b0
            try clear c23b1
            try clear c24
            try clear c24b0
            try clear c24b1
            try clear c25
            try clear c25b0
            try clear c26
            try clear c26b0
            try clear c27
            try clear c27b0
            try clear c28
            try clear c28b0
            try clear c29
            try clear c30
            try clear c32
            try clear c34
            try clear c34b0
            try clear c35
            try clear c35b0
            try clear c36
            try clear c37
            try clear c39
            try clear c41
            try clear c42
            try clear c44
            try clear c46
            try clear c46b0
            try clear c47
            try clear c48
            try clear c50
            try clear c51
            try clear c53
            try clear c55
            try clear c55b0
            try clear c57
            try clear c57b0
            try clear c57b1
            try clear c58
            try clear c58b0
            try clear c59
            try clear c60
            try clear c64
            try clear p64
            try clear c65
            try clear c66
            try clear c68
            try clear hcz12_0
            try clear hcz12_1
            try clear hcz12_2
            try clear hcz12_3
            try clear hcz14_0
            try clear hcz14_1
            try clear hcz14_2
            try clear hcz14_3
            try clear hcz16_0
            try clear hcz16_1
            try clear hcz16_2
            try clear hcz17_0
            try clear hcz17_1
            try clear hcz17_2
            try clear hcz17_3
            try clear hcz22_0
            try clear hcz22_1
            try clear hcz31_0
            try clear hcz31_1
            try clear hcz38_0
            try clear hcz38_1
            try clear hcz40_0
            try clear hcz40_1
            try clear hcz40_2
            try clear hcz40_3
            try clear hcz43_0
            try clear hcz43_1
            try clear hcz45_0
            try clear hcz45_1
            try clear hcz45_2
            try clear hcz45_3
            try clear hcz49_0
            try clear hcz49_1
            try clear hcz52_0
            try clear hcz52_1
            try clear hcz61_0
            try clear hcz61_1
            try clear hcz61_2
            try clear hcz61_3
            try clear hcz67_0
            try clear hcz67_1
            try clear hcz69_0
            try clear hcz69_1
            try clear hfz12_0
            try clear hfz12_1
            try clear hfz12_2
            try clear hfz12_3
            try clear hfz14_0
            try clear hfz14_1
            try clear hfz14_2
            try clear hfz14_3
            try clear hfz16_0
            try clear hfz16_1
            try clear hfz16_2
            try clear hfz17_0
            try clear hfz17_1
            try clear hfz17_2
            try clear hfz17_3
            try clear hfz22_0
            try clear hfz22_1
            try clear hfz31_0
            try clear hfz31_1
            try clear hfz38_0
            try clear hfz38_1
            try clear hfz40_0
            try clear hfz40_1
            try clear hfz40_2
            try clear hfz40_3
            try clear hfz43_0
            try clear hfz43_1
            try clear hfz45_0
            try clear hfz45_1
            try clear hfz45_2
            try clear hfz45_3
            try clear hfz49_0
            try clear hfz49_1
            try clear hfz52_0
            try clear hfz52_1
            try clear hfz61_0
            try clear hfz61_1
            try clear hfz61_2
            try clear hfz61_3
            try clear hfz67_0
            try clear hfz67_1
            try clear hfz69_0
            try clear hfz69_1
            try clear p2
            try clear p6
            obtain ⟨kq, HA, HJ53, BK101, BK102, BK111, HB⟩ := hcut
            cases kq with
            | zero => exact absurd HA.out (by simp [dropperlaw04_PullFree.j2])
            | succ kj53 =>
              have H := HA.out
              clear HA
              simp only [dropperlaw04_PullFree.j2] at H
              by_cases c70 : a0_0 = 0
              · rw [if_pos c70] at H
                exact absurd H (by simp)
              rw [if_neg c70] at H
              have c70b0 : (a0_0 == 0) = false := beq_eq_false_iff_ne.mpr c70
              have c70b1 : (a0_0 != 0) = true := bne_iff_ne.mpr c70
              replace H := Option.bind_eq_some_iff.mp H
              obtain ⟨⟨t117, t118, t119⟩, A710, H⟩ := H
              replace H : (if t119 = 0 then (if t117 > t105 then (dropperlaw04_PullFree.j3 kj53 true a0_0 a0_1 a0_2 a0_3 a1_0 a1_1 a1_2) else (dropperlaw04_PullFree.j3 kj53 (decide (t118 < t106)) a0_0 a0_1 a0_2 a0_3 a1_0 a1_1 a1_2)) else (dropperlaw04_PullFree.j3 kj53 true a0_0 a0_1 a0_2 a0_3 a1_0 a1_1 a1_2)) = some r := H
              have A71 := Aside0.mk A710
              clear A710
              have HC72 := Aside0.mk H
              clear H
              have hnb73 := NB101_102.out
              have hnc73 := NB102_101.out
              have hnb74 := NB101_111.out
              have hnc74 := NB111_101.out
              have hcz75_0 : wc.cell? ⟨gb101, 0, none⟩ = some (.int .i64 a0_0) := (blk_cell BK101.out 0).trans rfl
              have hcz75_1 : wc.cell? ⟨gb101, 1, none⟩ = some (.int .i64 a0_1) := (blk_cell BK101.out 1).trans rfl
              have hcz75_2 : wc.cell? ⟨gb101, 2, none⟩ = some (.int .i64 a0_2) := (blk_cell BK101.out 2).trans rfl
              have hcz75_3 : wc.cell? ⟨gb101, 3, none⟩ = some (.int .i64 a0_3) := (blk_cell BK101.out 3).trans rfl
              have hfz75_0 := blk_frozen BK101.out 0
              have hfz75_1 := blk_frozen BK101.out 1
              have hfz75_2 := blk_frozen BK101.out 2
              have hfz75_3 := blk_frozen BK101.out 3
              go_upto_region 17 with (first | ((with_reducible refine gate_dst (N := 15) rfl ?_); refine box_event ?hg (N := 15) ?hd (cs := #[.int .i64 0, .int .i64 0, .int .i64 0, .int .i64 0]) (t := 23) ?hr ?_; (case hd => rfl); (case hg => rfl); (case hr => first | (go_simp; done) | (go_simp; rfl)); intro gb116 hg w76 hbox hb; have n0_ := Aside0.mk (bkB BK101 hb); have n1_ := Aside0.mk (bkB BK102 hb); have n2_ := Aside0.mk (bkB BK111 hb); have n3_ := Aside0.mk (below_step (by repeat (first | (with_reducible first | exact HB.out | apply below_alloc | apply pw_below_drewN | apply below_drew1 | refine below_set ?_ GE101.out | refine below_set ?_ GE102.out | refine below_set ?_ GE111.out) | exact HB.out)) hb); have n4_ := Aside0.mk (hbox); have n5_ := Aside0.mk ((by rw [hg]; exact (below_size (by repeat (first | (with_reducible first | exact HB.out | apply below_alloc | apply pw_below_drewN | apply below_drew1 | refine below_set ?_ GE101.out | refine below_set ?_ GE102.out | refine below_set ?_ GE111.out) | exact HB.out))) : w.heap.size ≤ gb116)); have n6_ := Aside0.mk ((by rw [hg]; exact (below_size (by repeat (first | (with_reducible first | exact HB.out | apply below_alloc | apply pw_below_drewN | apply below_drew1 | refine below_set ?_ GE101.out | refine below_set ?_ GE102.out | refine below_set ?_ GE111.out) | exact HB.out))) : w.heap.size ≤ gb116)); have n7_ := Aside0.mk ((bkL BK101 hg : gb101 ≠ gb116)); have n8_ := Aside0.mk ((bkG BK101 hg : gb116 ≠ gb101)); have n9_ := Aside0.mk ((bkL BK102 hg : gb102 ≠ gb116)); have n10_ := Aside0.mk ((bkG BK102 hg : gb116 ≠ gb102)); have n11_ := Aside0.mk ((bkL BK111 hg : gb111 ≠ gb116)); have n12_ := Aside0.mk ((bkG BK111 hg : gb116 ≠ gb111)); clear BK101; clear BK102; clear BK111; clear HB; have BK101 := n0_; have BK102 := n1_; have BK111 := n2_; have HB := n3_; have BK116 := n4_; have GW116 := n5_; have GE116 := n6_; have NB101_116 := n7_; have NB116_101 := n8_; have NB102_116 := n9_; have NB116_102 := n10_; have NB111_116 := n11_; have NB116_111 := n12_; clear n0_ n1_ n2_ n3_ n4_ n5_ n6_ n7_ n8_ n9_ n10_ n11_ n12_; clear hb hbox hg; have hnb77 := NB116_101.out; have hnc77 := NB101_116.out; have hnb78 := NB116_102.out; have hnc78 := NB102_116.out; have hnb79 := NB116_111.out; have hnc79 := NB111_116.out; have hcz80_0 : w76.cell? ⟨gb116, 0, none⟩ = some (.int .i64 0) := (blk_cell BK116.out 0).trans rfl; have hcz80_1 : w76.cell? ⟨gb116, 1, none⟩ = some (.int .i64 0) := (blk_cell BK116.out 1).trans rfl; have hcz80_2 : w76.cell? ⟨gb116, 2, none⟩ = some (.int .i64 0) := (blk_cell BK116.out 2).trans rfl; have hcz80_3 : w76.cell? ⟨gb116, 3, none⟩ = some (.int .i64 0) := (blk_cell BK116.out 3).trans rfl; have hfz80_0 := blk_frozen BK116.out 0; have hfz80_1 := blk_frozen BK116.out 1; have hfz80_2 := blk_frozen BK116.out 2; have hfz80_3 := blk_frozen BK116.out 3; have hcz81_0 : w76.cell? ⟨gb101, 0, none⟩ = some (.int .i64 a0_0) := (blk_cell BK101.out 0).trans rfl; have hcz81_1 : w76.cell? ⟨gb101, 1, none⟩ = some (.int .i64 a0_1) := (blk_cell BK101.out 1).trans rfl; have hcz81_2 : w76.cell? ⟨gb101, 2, none⟩ = some (.int .i64 a0_2) := (blk_cell BK101.out 2).trans rfl; have hcz81_3 : w76.cell? ⟨gb101, 3, none⟩ = some (.int .i64 a0_3) := (blk_cell BK101.out 3).trans rfl; have hfz81_0 := blk_frozen BK101.out 0; have hfz81_1 := blk_frozen BK101.out 1; have hfz81_2 := blk_frozen BK101.out 2; have hfz81_3 := blk_frozen BK101.out 3) | (go_at_call 14; (with_reducible refine (pull_Free.calls kj53 (wrap64 (1 + (Int.tmod (wrap64 (a2)) a0_0))) a0_1 a0_2 a0_3 t117 t118 t119 _ A71.out).mono ?_); rintro e w82 ⟨rfl, hb⟩; have n0_ := Aside0.mk (blk_below (g := gb101) (o := .cells #[.int .i64 a0_0, .int .i64 a0_1, .int .i64 a0_2, .int .i64 a0_3] 23 (0, 0)) (by (with_reducible repeat (first | refine blk_drewN ?_ _ | refine blk_drew ?_ | refine blk_alloc ?_ _)); refine blk_far ?_ NB101_116.out _; (with_reducible repeat (first | refine blk_drewN ?_ _ | refine blk_drew ?_ | refine blk_alloc ?_ _)); refine blk_far ?_ NB101_116.out _; (with_reducible repeat (first | refine blk_drewN ?_ _ | refine blk_drew ?_ | refine blk_alloc ?_ _)); refine blk_far ?_ NB101_116.out _; (with_reducible repeat (first | refine blk_drewN ?_ _ | refine blk_drew ?_ | refine blk_alloc ?_ _)); refine blk_far ?_ NB101_116.out _; (with_reducible repeat (first | refine blk_drewN ?_ _ | refine blk_drew ?_ | refine blk_alloc ?_ _)); refine blk_far ?_ NB101_116.out _; (with_reducible repeat (first | refine blk_drewN ?_ _ | refine blk_drew ?_ | refine blk_alloc ?_ _)); exact BK101.out) hb); have n1_ := Aside0.mk (blk_below (g := gb102) (o := .cells #[.int .u8 a1_0, .int .u8 a1_1, .int .u8 a1_2] 62 (0, 0)) (by (with_reducible repeat (first | refine blk_drewN ?_ _ | refine blk_drew ?_ | refine blk_alloc ?_ _)); refine blk_far ?_ NB102_116.out _; (with_reducible repeat (first | refine blk_drewN ?_ _ | refine blk_drew ?_ | refine blk_alloc ?_ _)); refine blk_far ?_ NB102_116.out _; (with_reducible repeat (first | refine blk_drewN ?_ _ | refine blk_drew ?_ | refine blk_alloc ?_ _)); refine blk_far ?_ NB102_116.out _; (with_reducible repeat (first | refine blk_drewN ?_ _ | refine blk_drew ?_ | refine blk_alloc ?_ _)); refine blk_far ?_ NB102_116.out _; (with_reducible repeat (first | refine blk_drewN ?_ _ | refine blk_drew ?_ | refine blk_alloc ?_ _)); refine blk_far ?_ NB102_116.out _; (with_reducible repeat (first | refine blk_drewN ?_ _ | refine blk_drew ?_ | refine blk_alloc ?_ _)); exact BK102.out) hb); have n2_ := Aside0.mk (blk_below (g := gb111) (o := .cells #[.int .i64 t108, .int .i64 t109] 25 (0, 0)) (by (with_reducible repeat (first | refine blk_drewN ?_ _ | refine blk_drew ?_ | refine blk_alloc ?_ _)); refine blk_far ?_ NB111_116.out _; (with_reducible repeat (first | refine blk_drewN ?_ _ | refine blk_drew ?_ | refine blk_alloc ?_ _)); refine blk_far ?_ NB111_116.out _; (with_reducible repeat (first | refine blk_drewN ?_ _ | refine blk_drew ?_ | refine blk_alloc ?_ _)); refine blk_far ?_ NB111_116.out _; (with_reducible repeat (first | refine blk_drewN ?_ _ | refine blk_drew ?_ | refine blk_alloc ?_ _)); refine blk_far ?_ NB111_116.out _; (with_reducible repeat (first | refine blk_drewN ?_ _ | refine blk_drew ?_ | refine blk_alloc ?_ _)); refine blk_far ?_ NB111_116.out _; (with_reducible repeat (first | refine blk_drewN ?_ _ | refine blk_drew ?_ | refine blk_alloc ?_ _)); exact BK111.out) hb); have n3_ := Aside0.mk (blk_below (g := gb116) (o := .cells #[.int .i64 (wrap64 (1 + (Int.tmod (wrap64 (a2)) a0_0))), .int .i64 a0_1, .int .i64 a0_2, .int .i64 a0_3] 23 (0, 0)) (by (with_reducible repeat (first | refine blk_drewN ?_ _ | refine blk_drew ?_ | refine blk_alloc ?_ _)); refine blk_put (cs := #[.int .i64 a0_0, .int .i64 a0_1, .int .i64 a0_2, .int .i64 a0_3]) ?_ 0 _ rfl; (with_reducible repeat (first | refine blk_drewN ?_ _ | refine blk_drew ?_ | refine blk_alloc ?_ _)); refine blk_put (cs := #[.int .i64 a0_0, .int .i64 a0_1, .int .i64 a0_2, .int .i64 0]) ?_ 3 _ rfl; (with_reducible repeat (first | refine blk_drewN ?_ _ | refine blk_drew ?_ | refine blk_alloc ?_ _)); refine blk_put (cs := #[.int .i64 a0_0, .int .i64 a0_1, .int .i64 0, .int .i64 0]) ?_ 2 _ rfl; (with_reducible repeat (first | refine blk_drewN ?_ _ | refine blk_drew ?_ | refine blk_alloc ?_ _)); refine blk_put (cs := #[.int .i64 a0_0, .int .i64 0, .int .i64 0, .int .i64 0]) ?_ 1 _ rfl; (with_reducible repeat (first | refine blk_drewN ?_ _ | refine blk_drew ?_ | refine blk_alloc ?_ _)); refine blk_put (cs := #[.int .i64 0, .int .i64 0, .int .i64 0, .int .i64 0]) ?_ 0 _ rfl; (with_reducible repeat (first | refine blk_drewN ?_ _ | refine blk_drew ?_ | refine blk_alloc ?_ _)); exact BK116.out) hb); have n4_ := Aside0.mk (below_step (by repeat (first | (with_reducible first | exact HB.out | apply below_alloc | apply pw_below_drewN | apply below_drew1 | refine below_set ?_ GE101.out | refine below_set ?_ GE102.out | refine below_set ?_ GE111.out | refine below_set ?_ GE116.out) | exact HB.out)) hb); clear BK101; clear BK102; clear BK111; clear BK116; clear HB; have BK101 := n0_; have BK102 := n1_; have BK111 := n2_; have BK116 := n3_; have HB := n4_; clear n0_ n1_ n2_ n3_ n4_; (try clear hb); (try clear hb2); (try clear hk); (try clear hi)))
              repeat (go_quiet (fail); go_upto_region 17 with (fail))
              (try simp only [Act.put, List.setIfInBounds_toArray, List.set_cons_zero, List.set_cons_succ])
              go_cut [144] (fun v144 wc => ∃ (kq : Nat) (x144_71 : Bool), v144 = .bool x144_71 ∧ Aside0 (dropperlaw04_PullFree.j3 kq x144_71 a0_0 a0_1 a0_2 a0_3 a1_0 a1_1 a1_2 = some r) ∧ Aside0 (kq ≤ kj53) ∧ Aside0 (wc.heap[gb101]? = some (.cells #[.int .i64 a0_0, .int .i64 a0_1, .int .i64 a0_2, .int .i64 a0_3] 23 (0, 0))) ∧ Aside0 (wc.heap[gb102]? = some (.cells #[.int .u8 a1_0, .int .u8 a1_1, .int .u8 a1_2] 62 (0, 0))) ∧ Aside0 (wc.heap[gb111]? = some (.cells #[.int .i64 t108, .int .i64 t109] 25 (0, 0))) ∧ Aside0 (wc.heap[gb116]? = some (.cells #[.int .i64 (wrap64 (1 + (Int.tmod (wrap64 (a2)) a0_0))), .int .i64 a0_1, .int .i64 a0_2, .int .i64 a0_3] 23 (0, 0))) ∧ Aside0 (Below w.heap.size w wc))
              case first =>
                as_aux_lemma =>
                have H := HC72.out
                clear HC72
                by_cases c83 : t119 = 0
                rotate_left
                · rw [if_neg c83] at H
                  have c83b0 : (t119 == 0) = false := beq_eq_false_iff_ne.mpr c83
                  have c83b1 : (t119 != 0) = true := bne_iff_ne.mpr c83
                  (first | rw [c83b0] | (simp only [i64_w, i32_w]; rw [c83b0]) | skip)
                  have H' := Aside0.mk H
                  clear H
                  go_wp2
                  repeat (go_quiet (fail); try go_wp2)
                  go_meet
                  case rel => exact ⟨_, (true), (by first | rfl | (simp; done) | (simp [*]; done)), H', ⟨by have := HJ7.out; have := HJ32.out; have := HJ53.out; first | omega | exact Nat.le_refl _⟩, ⟨bkU BK101⟩, ⟨bkU BK102⟩, ⟨bkU BK111⟩, ⟨bkU BK116⟩, ⟨by repeat (first | (with_reducible first | exact HB.out | apply below_alloc | apply pw_below_drewN | apply below_drew1 | refine below_set ?_ GE101.out | refine below_set ?_ GE102.out | refine below_set ?_ GE111.out | refine below_set ?_ GE116.out) | exact HB.out)⟩⟩
                rw [if_pos c83] at H
                have c83b0 : (t119 == 0) = true := beq_iff_eq.mpr c83
                have c83b1 : (t119 != 0) = false := bne_eq_false_iff_eq.mpr c83
                clear c83
                (first | rw [c83b0] | (simp only [i64_w, i32_w]; rw [c83b0]) | skip)
                by_cases c84 : t117 > t105
                · rw [if_pos c84] at H
                  have c84b0 : decide (t105 < t117) = true := decide_eq_true c84
                  clear c84
                  have H' := Aside0.mk H
                  clear H
                  go_wp2
                  repeat (go_quiet (fail); try go_wp2)
                  go_meet
                  case rel => exact ⟨_, (true), (by first | rfl | (simp; done) | (simp [*]; done)), H', ⟨by have := HJ7.out; have := HJ32.out; have := HJ53.out; first | omega | exact Nat.le_refl _⟩, ⟨bkU BK101⟩, ⟨bkU BK102⟩, ⟨bkU BK111⟩, ⟨bkU BK116⟩, ⟨by repeat (first | (with_reducible first | exact HB.out | apply below_alloc | apply pw_below_drewN | apply below_drew1 | refine below_set ?_ GE101.out | refine below_set ?_ GE102.out | refine below_set ?_ GE111.out | refine below_set ?_ GE116.out) | exact HB.out)⟩⟩
                rw [if_neg c84] at H
                have c84b0 : decide (t105 < t117) = false := decide_eq_false c84
                clear c84
                have H' := Aside0.mk H
                clear H
                go_wp2
                repeat (go_quiet (fail); try go_wp2)
                go_meet
                case rel => exact ⟨_, (decide (t118 < t106)), (by first | rfl | (simp; done) | (simp [*]; done)), H', ⟨by have := HJ7.out; have := HJ32.out; have := HJ53.out; first | omega | exact Nat.le_refl _⟩, ⟨bkU BK101⟩, ⟨bkU BK102⟩, ⟨bkU BK111⟩, ⟨bkU BK116⟩, ⟨by repeat (first | (with_reducible first | exact HB.out | apply below_alloc | apply pw_below_drewN | apply below_drew1 | refine below_set ?_ GE101.out | refine below_set ?_ GE102.out | refine below_set ?_ GE111.out | refine below_set ?_ GE116.out) | exact HB.out)⟩⟩
              case rest =>
                as_aux_lemma =>
                clear HC72
                try clear c1
                try clear c2
                try clear p2
                try clear c3
                try clear c4
                try clear c5
                try clear c6
                try clear p6
                try clear c7
                try clear c8
                try clear c9
                try clear c11
                try clear c20
                try clear c21
                try clear c23
                try clear c23b0
                try clear c23b1
                try clear c24
                try clear c24b0
                try clear c24b1
                try clear c25
                try clear c25b0
                try clear c26
                try clear c26b0
                try clear c27
                try clear c27b0
                try clear c28
                try clear c28b0
                try clear c29
                try clear c30
                try clear c32
                try clear c34
                try clear c34b0
                try clear c35
                try clear c35b0
                try clear c36
                try clear c37
                try clear c39
                try clear c41
                try clear c42
                try clear c44
                try clear c46
                try clear c46b0
                try clear c47
                try clear c48
                try clear c50
                try clear c51
                try clear c53
                try clear c55
                try clear c55b0
                try clear c57
                try clear c57b0
                try clear c57b1
                try clear c58
                try clear c58b0
                try clear c59
                try clear c60
                try clear c64
                try clear p64
                try clear c65
                try clear c66
                try clear c68
                try clear c70
                try clear c70b0
                try clear c70b1
                try clear c73
                try clear c74
                try clear c77
                try clear c78
                try clear c79
                try clear c83
                try clear c83b0
                try clear c83b1
                try clear c84
                try clear c84b0
                try clear hcz12_0
                try clear hcz12_1
                try clear hcz12_2
                try clear hcz12_3
                try clear hcz14_0
                try clear hcz14_1
                try clear hcz14_2
                try clear hcz14_3
                try clear hcz16_0
                try clear hcz16_1
                try clear hcz16_2
                try clear hcz17_0
                try clear hcz17_1
                try clear hcz17_2
                try clear hcz17_3
                try clear hcz22_0
                try clear hcz22_1
                try clear hcz31_0
                try clear hcz31_1
                try clear hcz38_0
                try clear hcz38_1
                try clear hcz40_0
                try clear hcz40_1
                try clear hcz40_2
                try clear hcz40_3
                try clear hcz43_0
                try clear hcz43_1
                try clear hcz45_0
                try clear hcz45_1
                try clear hcz45_2
                try clear hcz45_3
                try clear hcz49_0
                try clear hcz49_1
                try clear hcz52_0
                try clear hcz52_1
                try clear hcz61_0
                try clear hcz61_1
                try clear hcz61_2
                try clear hcz61_3
                try clear hcz67_0
                try clear hcz67_1
                try clear hcz69_0
                try clear hcz69_1
                try clear hcz75_0
                try clear hcz75_1
                try clear hcz75_2
                try clear hcz75_3
                try clear hcz80_0
                try clear hcz80_1
                try clear hcz80_2
                try clear hcz80_3
                try clear hcz81_0
                try clear hcz81_1
                try clear hcz81_2
                try clear hcz81_3
                try clear hfz12_0
                try clear hfz12_1
                try clear hfz12_2
                try clear hfz12_3
                try clear hfz14_0
                try clear hfz14_1
                try clear hfz14_2
                try clear hfz14_3
                try clear hfz16_0
                try clear hfz16_1
                try clear hfz16_2
                try clear hfz17_0
                try clear hfz17_1
                try clear hfz17_2
                try clear hfz17_3
                try clear hfz22_0
                try clear hfz22_1
                try clear hfz31_0
                try clear hfz31_1
                try clear hfz38_0
                try clear hfz38_1
                try clear hfz40_0
                try clear hfz40_1
                try clear hfz40_2
                try clear hfz40_3
                try clear hfz43_0
                try clear hfz43_1
                try clear hfz45_0
                try clear hfz45_1
                try clear hfz45_2
                try clear hfz45_3
                try clear hfz49_0
                try clear hfz49_1
                try clear hfz52_0
                try clear hfz52_1
                try clear hfz61_0
                try clear hfz61_1
                try clear hfz61_2
                try clear hfz61_3
                try clear hfz67_0
                try clear hfz67_1
                try clear hfz69_0
                try clear hfz69_1
                try clear hfz75_0
                try clear hfz75_1
                try clear hfz75_2
                try clear hfz75_3
                try clear hfz80_0
                try clear hfz80_1
                try clear hfz80_2
                try clear hfz80_3
                try clear hfz81_0
                try clear hfz81_1
                try clear hfz81_2
                try clear hfz81_3
                try clear p2
                try clear p6
                try clear p64
                obtain ⟨kq, x144_71, rfl, HA, HJ71, BK101, BK102, BK111, BK116, HB⟩ := hcut
                cases kq with
                | zero => exact absurd HA.out (by simp [dropperlaw04_PullFree.j3])
                | succ kj71 =>
                  have H := HA.out
                  clear HA
                  simp only [dropperlaw04_PullFree.j3] at H
                  by_cases c85 : x144_71 = true
                  · subst c85
                    have H1 : (some false) = some r := by rw [if_pos rfl] at H; exact H
                    clear H
                    have H := H1
                    clear H1
                    exact absurd (hT.symm.trans (Option.some.inj H).symm) (by decide)
                  replace c85 := Bool.eq_false_iff.mpr c85
                  subst c85
                  have H1 : ((pull_Longest.f kj71 a0_0 a0_1 a0_2 a0_3 (mn (wrap64 ((Int.tmod (wrap64 (mn a1_1 a1_2)) 121) - 60)) (wrap64 ((Int.tmod (wrap64 (mx a1_1 a1_2)) 121) - 60))) (mx (wrap64 ((Int.tmod (wrap64 (mn a1_1 a1_2)) 121) - 60)) (wrap64 ((Int.tmod (wrap64 (mx a1_1 a1_2)) 121) - 60)))).bind fun bt121 => (if bt121.2 = 0 then ((pull_Free.f kj71 bt121.1 a0_1 a0_2 a0_3).bind fun bt123 => (if bt123.2.2 = 0 then (if (mn (wrap64 ((Int.tmod (wrap64 (mn a1_1 a1_2)) 121) - 60)) (wrap64 ((Int.tmod (wrap64 (mx a1_1 a1_2)) 121) - 60))) < bt123.1 then (if (mn (wrap64 ((Int.tmod (wrap64 (mn a1_1 a1_2)) 121) - 60)) (wrap64 ((Int.tmod (wrap64 (mx a1_1 a1_2)) 121) - 60))) < 0 then (some false) else (if (mx (wrap64 ((Int.tmod (wrap64 (mn a1_1 a1_2)) 121) - 60)) (wrap64 ((Int.tmod (wrap64 (mx a1_1 a1_2)) 121) - 60))) > bt123.2.1 then (if (mx (wrap64 ((Int.tmod (wrap64 (mn a1_1 a1_2)) 121) - 60)) (wrap64 ((Int.tmod (wrap64 (mx a1_1 a1_2)) 121) - 60))) > 0 then (some false) else (dropperlaw04_PullFree.j4 kj71 (mn (wrap64 ((Int.tmod (wrap64 (mn a1_1 a1_2)) 121) - 60)) (wrap64 ((Int.tmod (wrap64 (mx a1_1 a1_2)) 121) - 60))) (mx (wrap64 ((Int.tmod (wrap64 (mn a1_1 a1_2)) 121) - 60)) (wrap64 ((Int.tmod (wrap64 (mx a1_1 a1_2)) 121) - 60))) a0_0 a0_1 a0_2 a0_3)) else (dropperlaw04_PullFree.j4 kj71 (mn (wrap64 ((Int.tmod (wrap64 (mn a1_1 a1_2)) 121) - 60)) (wrap64 ((Int.tmod (wrap64 (mx a1_1 a1_2)) 121) - 60))) (mx (wrap64 ((Int.tmod (wrap64 (mn a1_1 a1_2)) 121) - 60)) (wrap64 ((Int.tmod (wrap64 (mx a1_1 a1_2)) 121) - 60))) a0_0 a0_1 a0_2 a0_3))) else (if (mx (wrap64 ((Int.tmod (wrap64 (mn a1_1 a1_2)) 121) - 60)) (wrap64 ((Int.tmod (wrap64 (mx a1_1 a1_2)) 121) - 60))) > bt123.2.1 then (if (mx (wrap64 ((Int.tmod (wrap64 (mn a1_1 a1_2)) 121) - 60)) (wrap64 ((Int.tmod (wrap64 (mx a1_1 a1_2)) 121) - 60))) > 0 then (some false) else (dropperlaw04_PullFree.j4 kj71 (mn (wrap64 ((Int.tmod (wrap64 (mn a1_1 a1_2)) 121) - 60)) (wrap64 ((Int.tmod (wrap64 (mx a1_1 a1_2)) 121) - 60))) (mx (wrap64 ((Int.tmod (wrap64 (mn a1_1 a1_2)) 121) - 60)) (wrap64 ((Int.tmod (wrap64 (mx a1_1 a1_2)) 121) - 60))) a0_0 a0_1 a0_2 a0_3)) else (dropperlaw04_PullFree.j4 kj71 (mn (wrap64 ((Int.tmod (wrap64 (mn a1_1 a1_2)) 121) - 60)) (wrap64 ((Int.tmod (wrap64 (mx a1_1 a1_2)) 121) - 60))) (mx (wrap64 ((Int.tmod (wrap64 (mn a1_1 a1_2)) 121) - 60)) (wrap64 ((Int.tmod (wrap64 (mx a1_1 a1_2)) 121) - 60))) a0_0 a0_1 a0_2 a0_3))) else (some false))) else (if bt121.2 = 5 then (dropperlaw04_PullFree.j4 kj71 (mn (wrap64 ((Int.tmod (wrap64 (mn a1_1 a1_2)) 121) - 60)) (wrap64 ((Int.tmod (wrap64 (mx a1_1 a1_2)) 121) - 60))) (mx (wrap64 ((Int.tmod (wrap64 (mn a1_1 a1_2)) 121) - 60)) (wrap64 ((Int.tmod (wrap64 (mx a1_1 a1_2)) 121) - 60))) a0_0 a0_1 a0_2 a0_3) else (some false)))) = some r := by rw [if_neg (show ¬ (false = true) by decide)] at H; exact H
                  clear H
                  have H := H1
                  clear H1
                  obtain ⟨ji86, hji86⟩ : ∃ j_ : Int, (mn a1_1 a1_2) = j_ := ⟨_, rfl⟩
                  replace H : ((pull_Longest.f kj71 a0_0 a0_1 a0_2 a0_3 (mn (wrap64 ((Int.tmod (wrap64 (ji86)) 121) - 60)) (wrap64 ((Int.tmod (wrap64 (mx a1_1 a1_2)) 121) - 60))) (mx (wrap64 ((Int.tmod (wrap64 (ji86)) 121) - 60)) (wrap64 ((Int.tmod (wrap64 (mx a1_1 a1_2)) 121) - 60)))).bind fun bt121 => (if bt121.2 = 0 then ((pull_Free.f kj71 bt121.1 a0_1 a0_2 a0_3).bind fun bt123 => (if bt123.2.2 = 0 then (if (mn (wrap64 ((Int.tmod (wrap64 (ji86)) 121) - 60)) (wrap64 ((Int.tmod (wrap64 (mx a1_1 a1_2)) 121) - 60))) < bt123.1 then (if (mn (wrap64 ((Int.tmod (wrap64 (ji86)) 121) - 60)) (wrap64 ((Int.tmod (wrap64 (mx a1_1 a1_2)) 121) - 60))) < 0 then (some false) else (if (mx (wrap64 ((Int.tmod (wrap64 (ji86)) 121) - 60)) (wrap64 ((Int.tmod (wrap64 (mx a1_1 a1_2)) 121) - 60))) > bt123.2.1 then (if (mx (wrap64 ((Int.tmod (wrap64 (ji86)) 121) - 60)) (wrap64 ((Int.tmod (wrap64 (mx a1_1 a1_2)) 121) - 60))) > 0 then (some false) else (dropperlaw04_PullFree.j4 kj71 (mn (wrap64 ((Int.tmod (wrap64 (ji86)) 121) - 60)) (wrap64 ((Int.tmod (wrap64 (mx a1_1 a1_2)) 121) - 60))) (mx (wrap64 ((Int.tmod (wrap64 (ji86)) 121) - 60)) (wrap64 ((Int.tmod (wrap64 (mx a1_1 a1_2)) 121) - 60))) a0_0 a0_1 a0_2 a0_3)) else (dropperlaw04_PullFree.j4 kj71 (mn (wrap64 ((Int.tmod (wrap64 (ji86)) 121) - 60)) (wrap64 ((Int.tmod (wrap64 (mx a1_1 a1_2)) 121) - 60))) (mx (wrap64 ((Int.tmod (wrap64 (ji86)) 121) - 60)) (wrap64 ((Int.tmod (wrap64 (mx a1_1 a1_2)) 121) - 60))) a0_0 a0_1 a0_2 a0_3))) else (if (mx (wrap64 ((Int.tmod (wrap64 (ji86)) 121) - 60)) (wrap64 ((Int.tmod (wrap64 (mx a1_1 a1_2)) 121) - 60))) > bt123.2.1 then (if (mx (wrap64 ((Int.tmod (wrap64 (ji86)) 121) - 60)) (wrap64 ((Int.tmod (wrap64 (mx a1_1 a1_2)) 121) - 60))) > 0 then (some false) else (dropperlaw04_PullFree.j4 kj71 (mn (wrap64 ((Int.tmod (wrap64 (ji86)) 121) - 60)) (wrap64 ((Int.tmod (wrap64 (mx a1_1 a1_2)) 121) - 60))) (mx (wrap64 ((Int.tmod (wrap64 (ji86)) 121) - 60)) (wrap64 ((Int.tmod (wrap64 (mx a1_1 a1_2)) 121) - 60))) a0_0 a0_1 a0_2 a0_3)) else (dropperlaw04_PullFree.j4 kj71 (mn (wrap64 ((Int.tmod (wrap64 (ji86)) 121) - 60)) (wrap64 ((Int.tmod (wrap64 (mx a1_1 a1_2)) 121) - 60))) (mx (wrap64 ((Int.tmod (wrap64 (ji86)) 121) - 60)) (wrap64 ((Int.tmod (wrap64 (mx a1_1 a1_2)) 121) - 60))) a0_0 a0_1 a0_2 a0_3))) else (some false))) else (if bt121.2 = 5 then (dropperlaw04_PullFree.j4 kj71 (mn (wrap64 ((Int.tmod (wrap64 (ji86)) 121) - 60)) (wrap64 ((Int.tmod (wrap64 (mx a1_1 a1_2)) 121) - 60))) (mx (wrap64 ((Int.tmod (wrap64 (ji86)) 121) - 60)) (wrap64 ((Int.tmod (wrap64 (mx a1_1 a1_2)) 121) - 60))) a0_0 a0_1 a0_2 a0_3) else (some false)))) = some r := by first | (rw [hji86] at H; exact H) | (simp only [hji86] at H ⊢; exact H)
                  have hji86_ : (if a1_2 < a1_1 then a1_2 else a1_1) = ji86 := hji86
                  obtain ⟨ji87, hji87⟩ : ∃ j_ : Int, (mx a1_1 a1_2) = j_ := ⟨_, rfl⟩
                  replace H : ((pull_Longest.f kj71 a0_0 a0_1 a0_2 a0_3 (mn (wrap64 ((Int.tmod (wrap64 (ji86)) 121) - 60)) (wrap64 ((Int.tmod (wrap64 (ji87)) 121) - 60))) (mx (wrap64 ((Int.tmod (wrap64 (ji86)) 121) - 60)) (wrap64 ((Int.tmod (wrap64 (ji87)) 121) - 60)))).bind fun bt121 => (if bt121.2 = 0 then ((pull_Free.f kj71 bt121.1 a0_1 a0_2 a0_3).bind fun bt123 => (if bt123.2.2 = 0 then (if (mn (wrap64 ((Int.tmod (wrap64 (ji86)) 121) - 60)) (wrap64 ((Int.tmod (wrap64 (ji87)) 121) - 60))) < bt123.1 then (if (mn (wrap64 ((Int.tmod (wrap64 (ji86)) 121) - 60)) (wrap64 ((Int.tmod (wrap64 (ji87)) 121) - 60))) < 0 then (some false) else (if (mx (wrap64 ((Int.tmod (wrap64 (ji86)) 121) - 60)) (wrap64 ((Int.tmod (wrap64 (ji87)) 121) - 60))) > bt123.2.1 then (if (mx (wrap64 ((Int.tmod (wrap64 (ji86)) 121) - 60)) (wrap64 ((Int.tmod (wrap64 (ji87)) 121) - 60))) > 0 then (some false) else (dropperlaw04_PullFree.j4 kj71 (mn (wrap64 ((Int.tmod (wrap64 (ji86)) 121) - 60)) (wrap64 ((Int.tmod (wrap64 (ji87)) 121) - 60))) (mx (wrap64 ((Int.tmod (wrap64 (ji86)) 121) - 60)) (wrap64 ((Int.tmod (wrap64 (ji87)) 121) - 60))) a0_0 a0_1 a0_2 a0_3)) else (dropperlaw04_PullFree.j4 kj71 (mn (wrap64 ((Int.tmod (wrap64 (ji86)) 121) - 60)) (wrap64 ((Int.tmod (wrap64 (ji87)) 121) - 60))) (mx (wrap64 ((Int.tmod (wrap64 (ji86)) 121) - 60)) (wrap64 ((Int.tmod (wrap64 (ji87)) 121) - 60))) a0_0 a0_1 a0_2 a0_3))) else (if (mx (wrap64 ((Int.tmod (wrap64 (ji86)) 121) - 60)) (wrap64 ((Int.tmod (wrap64 (ji87)) 121) - 60))) > bt123.2.1 then (if (mx (wrap64 ((Int.tmod (wrap64 (ji86)) 121) - 60)) (wrap64 ((Int.tmod (wrap64 (ji87)) 121) - 60))) > 0 then (some false) else (dropperlaw04_PullFree.j4 kj71 (mn (wrap64 ((Int.tmod (wrap64 (ji86)) 121) - 60)) (wrap64 ((Int.tmod (wrap64 (ji87)) 121) - 60))) (mx (wrap64 ((Int.tmod (wrap64 (ji86)) 121) - 60)) (wrap64 ((Int.tmod (wrap64 (ji87)) 121) - 60))) a0_0 a0_1 a0_2 a0_3)) else (dropperlaw04_PullFree.j4 kj71 (mn (wrap64 ((Int.tmod (wrap64 (ji86)) 121) - 60)) (wrap64 ((Int.tmod (wrap64 (ji87)) 121) - 60))) (mx (wrap64 ((Int.tmod (wrap64 (ji86)) 121) - 60)) (wrap64 ((Int.tmod (wrap64 (ji87)) 121) - 60))) a0_0 a0_1 a0_2 a0_3))) else (some false))) else (if bt121.2 = 5 then (dropperlaw04_PullFree.j4 kj71 (mn (wrap64 ((Int.tmod (wrap64 (ji86)) 121) - 60)) (wrap64 ((Int.tmod (wrap64 (ji87)) 121) - 60))) (mx (wrap64 ((Int.tmod (wrap64 (ji86)) 121) - 60)) (wrap64 ((Int.tmod (wrap64 (ji87)) 121) - 60))) a0_0 a0_1 a0_2 a0_3) else (some false)))) = some r := by first | (rw [hji87] at H; exact H) | (simp only [hji87] at H ⊢; exact H)
                  have hji87_ : (if a1_1 < a1_2 then a1_2 else a1_1) = ji87 := hji87
                  obtain ⟨ji88, hji88⟩ : ∃ j_ : Int, (mn (wrap64 ((Int.tmod (wrap64 (ji86)) 121) - 60)) (wrap64 ((Int.tmod (wrap64 (ji87)) 121) - 60))) = j_ := ⟨_, rfl⟩
                  replace H : ((pull_Longest.f kj71 a0_0 a0_1 a0_2 a0_3 (ji88) (mx (wrap64 ((Int.tmod (wrap64 (ji86)) 121) - 60)) (wrap64 ((Int.tmod (wrap64 (ji87)) 121) - 60)))).bind fun bt121 => (if bt121.2 = 0 then ((pull_Free.f kj71 bt121.1 a0_1 a0_2 a0_3).bind fun bt123 => (if bt123.2.2 = 0 then (if (ji88) < bt123.1 then (if (ji88) < 0 then (some false) else (if (mx (wrap64 ((Int.tmod (wrap64 (ji86)) 121) - 60)) (wrap64 ((Int.tmod (wrap64 (ji87)) 121) - 60))) > bt123.2.1 then (if (mx (wrap64 ((Int.tmod (wrap64 (ji86)) 121) - 60)) (wrap64 ((Int.tmod (wrap64 (ji87)) 121) - 60))) > 0 then (some false) else (dropperlaw04_PullFree.j4 kj71 ji88 (mx (wrap64 ((Int.tmod (wrap64 (ji86)) 121) - 60)) (wrap64 ((Int.tmod (wrap64 (ji87)) 121) - 60))) a0_0 a0_1 a0_2 a0_3)) else (dropperlaw04_PullFree.j4 kj71 ji88 (mx (wrap64 ((Int.tmod (wrap64 (ji86)) 121) - 60)) (wrap64 ((Int.tmod (wrap64 (ji87)) 121) - 60))) a0_0 a0_1 a0_2 a0_3))) else (if (mx (wrap64 ((Int.tmod (wrap64 (ji86)) 121) - 60)) (wrap64 ((Int.tmod (wrap64 (ji87)) 121) - 60))) > bt123.2.1 then (if (mx (wrap64 ((Int.tmod (wrap64 (ji86)) 121) - 60)) (wrap64 ((Int.tmod (wrap64 (ji87)) 121) - 60))) > 0 then (some false) else (dropperlaw04_PullFree.j4 kj71 ji88 (mx (wrap64 ((Int.tmod (wrap64 (ji86)) 121) - 60)) (wrap64 ((Int.tmod (wrap64 (ji87)) 121) - 60))) a0_0 a0_1 a0_2 a0_3)) else (dropperlaw04_PullFree.j4 kj71 ji88 (mx (wrap64 ((Int.tmod (wrap64 (ji86)) 121) - 60)) (wrap64 ((Int.tmod (wrap64 (ji87)) 121) - 60))) a0_0 a0_1 a0_2 a0_3))) else (some false))) else (if bt121.2 = 5 then (dropperlaw04_PullFree.j4 kj71 ji88 (mx (wrap64 ((Int.tmod (wrap64 (ji86)) 121) - 60)) (wrap64 ((Int.tmod (wrap64 (ji87)) 121) - 60))) a0_0 a0_1 a0_2 a0_3) else (some false)))) = some r := by first | (rw [hji88] at H; exact H) | (simp only [hji88] at H ⊢; exact H)
                  have hji88_ : (if (wrap64 ((Int.tmod (wrap64 (ji87)) 121) - 60)) < (wrap64 ((Int.tmod (wrap64 (ji86)) 121) - 60)) then (wrap64 ((Int.tmod (wrap64 (ji87)) 121) - 60)) else (wrap64 ((Int.tmod (wrap64 (ji86)) 121) - 60))) = ji88 := hji88
                  obtain ⟨ji89, hji89⟩ : ∃ j_ : Int, (mx (wrap64 ((Int.tmod (wrap64 (ji86)) 121) - 60)) (wrap64 ((Int.tmod (wrap64 (ji87)) 121) - 60))) = j_ := ⟨_, rfl⟩
                  replace H : ((pull_Longest.f kj71 a0_0 a0_1 a0_2 a0_3 (ji88) (ji89)).bind fun bt121 => (if bt121.2 = 0 then ((pull_Free.f kj71 bt121.1 a0_1 a0_2 a0_3).bind fun bt123 => (if bt123.2.2 = 0 then (if (ji88) < bt123.1 then (if (ji88) < 0 then (some false) else (if (ji89) > bt123.2.1 then (if (ji89) > 0 then (some false) else (dropperlaw04_PullFree.j4 kj71 ji88 ji89 a0_0 a0_1 a0_2 a0_3)) else (dropperlaw04_PullFree.j4 kj71 ji88 ji89 a0_0 a0_1 a0_2 a0_3))) else (if (ji89) > bt123.2.1 then (if (ji89) > 0 then (some false) else (dropperlaw04_PullFree.j4 kj71 ji88 ji89 a0_0 a0_1 a0_2 a0_3)) else (dropperlaw04_PullFree.j4 kj71 ji88 ji89 a0_0 a0_1 a0_2 a0_3))) else (some false))) else (if bt121.2 = 5 then (dropperlaw04_PullFree.j4 kj71 ji88 ji89 a0_0 a0_1 a0_2 a0_3) else (some false)))) = some r := by first | (rw [hji89] at H; exact H) | (simp only [hji89] at H ⊢; exact H)
                  have hji89_ : (if (wrap64 ((Int.tmod (wrap64 (ji86)) 121) - 60)) < (wrap64 ((Int.tmod (wrap64 (ji87)) 121) - 60)) then (wrap64 ((Int.tmod (wrap64 (ji87)) 121) - 60)) else (wrap64 ((Int.tmod (wrap64 (ji86)) 121) - 60))) = ji89 := hji89
                  replace H := Option.bind_eq_some_iff.mp H
                  obtain ⟨⟨t121, t122⟩, A900, H⟩ := H
                  replace H : (if t122 = 0 then ((pull_Free.f kj71 t121 a0_1 a0_2 a0_3).bind fun bt123 => (if bt123.2.2 = 0 then (if (ji88) < bt123.1 then (if (ji88) < 0 then (some false) else (if (ji89) > bt123.2.1 then (if (ji89) > 0 then (some false) else (dropperlaw04_PullFree.j4 kj71 ji88 ji89 a0_0 a0_1 a0_2 a0_3)) else (dropperlaw04_PullFree.j4 kj71 ji88 ji89 a0_0 a0_1 a0_2 a0_3))) else (if (ji89) > bt123.2.1 then (if (ji89) > 0 then (some false) else (dropperlaw04_PullFree.j4 kj71 ji88 ji89 a0_0 a0_1 a0_2 a0_3)) else (dropperlaw04_PullFree.j4 kj71 ji88 ji89 a0_0 a0_1 a0_2 a0_3))) else (some false))) else (if t122 = 5 then (dropperlaw04_PullFree.j4 kj71 ji88 ji89 a0_0 a0_1 a0_2 a0_3) else (some false))) = some r := H
                  have A90 := Aside0.mk A900
                  clear A900
                  have HC91 := Aside0.mk H
                  clear H
                  have hnb92 := NB102_101.out
                  have hnc92 := NB101_102.out
                  have hnb93 := NB102_111.out
                  have hnc93 := NB111_102.out
                  have hnb94 := NB102_116.out
                  have hnc94 := NB116_102.out
                  have hcz95_0 : wc.cell? ⟨gb102, 0, none⟩ = some (.int .u8 a1_0) := (blk_cell BK102.out 0).trans rfl
                  have hcz95_1 : wc.cell? ⟨gb102, 1, none⟩ = some (.int .u8 a1_1) := (blk_cell BK102.out 1).trans rfl
                  have hcz95_2 : wc.cell? ⟨gb102, 2, none⟩ = some (.int .u8 a1_2) := (blk_cell BK102.out 2).trans rfl
                  have hfz95_0 := blk_frozen BK102.out 0
                  have hfz95_1 := blk_frozen BK102.out 1
                  have hfz95_2 := blk_frozen BK102.out 2
                  have hnb96 := NB101_111.out
                  have hnc96 := NB111_101.out
                  have hnb97 := NB101_116.out
                  have hnc97 := NB116_101.out
                  have hcz98_0 : wc.cell? ⟨gb101, 0, none⟩ = some (.int .i64 a0_0) := (blk_cell BK101.out 0).trans rfl
                  have hcz98_1 : wc.cell? ⟨gb101, 1, none⟩ = some (.int .i64 a0_1) := (blk_cell BK101.out 1).trans rfl
                  have hcz98_2 : wc.cell? ⟨gb101, 2, none⟩ = some (.int .i64 a0_2) := (blk_cell BK101.out 2).trans rfl
                  have hcz98_3 : wc.cell? ⟨gb101, 3, none⟩ = some (.int .i64 a0_3) := (blk_cell BK101.out 3).trans rfl
                  have hfz98_0 := blk_frozen BK101.out 0
                  have hfz98_1 := blk_frozen BK101.out 1
                  have hfz98_2 := blk_frozen BK101.out 2
                  have hfz98_3 := blk_frozen BK101.out 3
                  go_upto_if 177 with (first | ((with_reducible refine gate_dst (N := 20) rfl ?_); refine box_event ?hg (N := 20) ?hd (cs := #[.int .i64 0, .int .i64 0, .int .i64 0, .int .i64 0]) (t := 23) ?hr ?_; (case hd => rfl); (case hg => rfl); (case hr => first | (go_simp; done) | (go_simp; rfl)); intro gb120 hg w99 hbox hb; have n0_ := Aside0.mk (bkB BK101 hb); have n1_ := Aside0.mk (bkB BK102 hb); have n2_ := Aside0.mk (bkB BK111 hb); have n3_ := Aside0.mk (bkB BK116 hb); have n4_ := Aside0.mk (below_step (by repeat (first | (with_reducible first | exact HB.out | apply below_alloc | apply pw_below_drewN | apply below_drew1 | refine below_set ?_ GE101.out | refine below_set ?_ GE102.out | refine below_set ?_ GE111.out | refine below_set ?_ GE116.out) | exact HB.out)) hb); have n5_ := Aside0.mk (hbox); have n6_ := Aside0.mk ((by rw [hg]; exact (below_size (by repeat (first | (with_reducible first | exact HB.out | apply below_alloc | apply pw_below_drewN | apply below_drew1 | refine below_set ?_ GE101.out | refine below_set ?_ GE102.out | refine below_set ?_ GE111.out | refine below_set ?_ GE116.out) | exact HB.out))) : w.heap.size ≤ gb120)); have n7_ := Aside0.mk ((by rw [hg]; exact (below_size (by repeat (first | (with_reducible first | exact HB.out | apply below_alloc | apply pw_below_drewN | apply below_drew1 | refine below_set ?_ GE101.out | refine below_set ?_ GE102.out | refine below_set ?_ GE111.out | refine below_set ?_ GE116.out) | exact HB.out))) : w.heap.size ≤ gb120)); have n8_ := Aside0.mk ((bkL BK101 hg : gb101 ≠ gb120)); have n9_ := Aside0.mk ((bkG BK101 hg : gb120 ≠ gb101)); have n10_ := Aside0.mk ((bkL BK102 hg : gb102 ≠ gb120)); have n11_ := Aside0.mk ((bkG BK102 hg : gb120 ≠ gb102)); have n12_ := Aside0.mk ((bkL BK111 hg : gb111 ≠ gb120)); have n13_ := Aside0.mk ((bkG BK111 hg : gb120 ≠ gb111)); have n14_ := Aside0.mk ((bkL BK116 hg : gb116 ≠ gb120)); have n15_ := Aside0.mk ((bkG BK116 hg : gb120 ≠ gb116)); clear BK101; clear BK102; clear BK111; clear BK116; clear HB; have BK101 := n0_; have BK102 := n1_; have BK111 := n2_; have BK116 := n3_; have HB := n4_; have BK120 := n5_; have GW120 := n6_; have GE120 := n7_; have NB101_120 := n8_; have NB120_101 := n9_; have NB102_120 := n10_; have NB120_102 := n11_; have NB111_120 := n12_; have NB120_111 := n13_; have NB116_120 := n14_; have NB120_116 := n15_; clear n0_ n1_ n2_ n3_ n4_ n5_ n6_ n7_ n8_ n9_ n10_ n11_ n12_ n13_ n14_ n15_; clear hb hbox hg; have hnb100 := NB120_101.out; have hnc100 := NB101_120.out; have hnb101 := NB120_102.out; have hnc101 := NB102_120.out; have hnb102 := NB120_111.out; have hnc102 := NB111_120.out; have hnb103 := NB120_116.out; have hnc103 := NB116_120.out; have hcz104_0 : w99.cell? ⟨gb120, 0, none⟩ = some (.int .i64 0) := (blk_cell BK120.out 0).trans rfl; have hcz104_1 : w99.cell? ⟨gb120, 1, none⟩ = some (.int .i64 0) := (blk_cell BK120.out 1).trans rfl; have hcz104_2 : w99.cell? ⟨gb120, 2, none⟩ = some (.int .i64 0) := (blk_cell BK120.out 2).trans rfl; have hcz104_3 : w99.cell? ⟨gb120, 3, none⟩ = some (.int .i64 0) := (blk_cell BK120.out 3).trans rfl; have hfz104_0 := blk_frozen BK120.out 0; have hfz104_1 := blk_frozen BK120.out 1; have hfz104_2 := blk_frozen BK120.out 2; have hfz104_3 := blk_frozen BK120.out 3; have hcz105_0 : w99.cell? ⟨gb101, 0, none⟩ = some (.int .i64 a0_0) := (blk_cell BK101.out 0).trans rfl; have hcz105_1 : w99.cell? ⟨gb101, 1, none⟩ = some (.int .i64 a0_1) := (blk_cell BK101.out 1).trans rfl; have hcz105_2 : w99.cell? ⟨gb101, 2, none⟩ = some (.int .i64 a0_2) := (blk_cell BK101.out 2).trans rfl; have hcz105_3 : w99.cell? ⟨gb101, 3, none⟩ = some (.int .i64 a0_3) := (blk_cell BK101.out 3).trans rfl; have hfz105_0 := blk_frozen BK101.out 0; have hfz105_1 := blk_frozen BK101.out 1; have hfz105_2 := blk_frozen BK101.out 2; have hfz105_3 := blk_frozen BK101.out 3) | (go_at_call 19; (with_reducible refine (pull_Longest.calls kj71 a0_0 a0_1 a0_2 a0_3 ji88 ji89 t121 t122 _ A90.out).mono ?_); rintro e w106 ⟨rfl, hb⟩; have n0_ := Aside0.mk (blk_below (g := gb101) (o := .cells #[.int .i64 a0_0, .int .i64 a0_1, .int .i64 a0_2, .int .i64 a0_3] 23 (0, 0)) (by (with_reducible repeat (first | refine blk_drewN ?_ _ | refine blk_drew ?_ | refine blk_alloc ?_ _)); refine blk_far ?_ NB101_120.out _; (with_reducible repeat (first | refine blk_drewN ?_ _ | refine blk_drew ?_ | refine blk_alloc ?_ _)); refine blk_far ?_ NB101_120.out _; (with_reducible repeat (first | refine blk_drewN ?_ _ | refine blk_drew ?_ | refine blk_alloc ?_ _)); refine blk_far ?_ NB101_120.out _; (with_reducible repeat (first | refine blk_drewN ?_ _ | refine blk_drew ?_ | refine blk_alloc ?_ _)); refine blk_far ?_ NB101_120.out _; (with_reducible repeat (first | refine blk_drewN ?_ _ | refine blk_drew ?_ | refine blk_alloc ?_ _)); exact BK101.out) hb); have n1_ := Aside0.mk (blk_below (g := gb102) (o := .cells #[.int .u8 a1_0, .int .u8 a1_1, .int .u8 a1_2] 62 (0, 0)) (by (with_reducible repeat (first | refine blk_drewN ?_ _ | refine blk_drew ?_ | refine blk_alloc ?_ _)); refine blk_far ?_ NB102_120.out _; (with_reducible repeat (first | refine blk_drewN ?_ _ | refine blk_drew ?_ | refine blk_alloc ?_ _)); refine blk_far ?_ NB102_120.out _; (with_reducible repeat (first | refine blk_drewN ?_ _ | refine blk_drew ?_ | refine blk_alloc ?_ _)); refine blk_far ?_ NB102_120.out _; (with_reducible repeat (first | refine blk_drewN ?_ _ | refine blk_drew ?_ | refine blk_alloc ?_ _)); refine blk_far ?_ NB102_120.out _; (with_reducible repeat (first | refine blk_drewN ?_ _ | refine blk_drew ?_ | refine blk_alloc ?_ _)); exact BK102.out) hb); have n2_ := Aside0.mk (blk_below (g := gb111) (o := .cells #[.int .i64 t108, .int .i64 t109] 25 (0, 0)) (by (with_reducible repeat (first | refine blk_drewN ?_ _ | refine blk_drew ?_ | refine blk_alloc ?_ _)); refine blk_far ?_ NB111_120.out _; (with_reducible repeat (first | refine blk_drewN ?_ _ | refine blk_drew ?_ | refine blk_alloc ?_ _)); refine blk_far ?_ NB111_120.out _; (with_reducible repeat (first | refine blk_drewN ?_ _ | refine blk_drew ?_ | refine blk_alloc ?_ _)); refine blk_far ?_ NB111_120.out _; (with_reducible repeat (first | refine blk_drewN ?_ _ | refine blk_drew ?_ | refine blk_alloc ?_ _)); refine blk_far ?_ NB111_120.out _; (with_reducible repeat (first | refine blk_drewN ?_ _ | refine blk_drew ?_ | refine blk_alloc ?_ _)); exact BK111.out) hb); have n3_ := Aside0.mk (blk_below (g := gb116) (o := .cells #[.int .i64 (wrap64 (1 + (Int.tmod (wrap64 (a2)) a0_0))), .int .i64 a0_1, .int .i64 a0_2, .int .i64 a0_3] 23 (0, 0)) (by (with_reducible repeat (first | refine blk_drewN ?_ _ | refine blk_drew ?_ | refine blk_alloc ?_ _)); refine blk_far ?_ NB116_120.out _; (with_reducible repeat (first | refine blk_drewN ?_ _ | refine blk_drew ?_ | refine blk_alloc ?_ _)); refine blk_far ?_ NB116_120.out _; (with_reducible repeat (first | refine blk_drewN ?_ _ | refine blk_drew ?_ | refine blk_alloc ?_ _)); refine blk_far ?_ NB116_120.out _; (with_reducible repeat (first | refine blk_drewN ?_ _ | refine blk_drew ?_ | refine blk_alloc ?_ _)); refine blk_far ?_ NB116_120.out _; (with_reducible repeat (first | refine blk_drewN ?_ _ | refine blk_drew ?_ | refine blk_alloc ?_ _)); exact BK116.out) hb); have n4_ := Aside0.mk (blk_below (g := gb120) (o := .cells #[.int .i64 a0_0, .int .i64 a0_1, .int .i64 a0_2, .int .i64 a0_3] 23 (0, 0)) (by (with_reducible repeat (first | refine blk_drewN ?_ _ | refine blk_drew ?_ | refine blk_alloc ?_ _)); refine blk_put (cs := #[.int .i64 a0_0, .int .i64 a0_1, .int .i64 a0_2, .int .i64 0]) ?_ 3 _ rfl; (with_reducible repeat (first | refine blk_drewN ?_ _ | refine blk_drew ?_ | refine blk_alloc ?_ _)); refine blk_put (cs := #[.int .i64 a0_0, .int .i64 a0_1, .int .i64 0, .int .i64 0]) ?_ 2 _ rfl; (with_reducible repeat (first | refine blk_drewN ?_ _ | refine blk_drew ?_ | refine blk_alloc ?_ _)); refine blk_put (cs := #[.int .i64 a0_0, .int .i64 0, .int .i64 0, .int .i64 0]) ?_ 1 _ rfl; (with_reducible repeat (first | refine blk_drewN ?_ _ | refine blk_drew ?_ | refine blk_alloc ?_ _)); refine blk_put (cs := #[.int .i64 0, .int .i64 0, .int .i64 0, .int .i64 0]) ?_ 0 _ rfl; (with_reducible repeat (first | refine blk_drewN ?_ _ | refine blk_drew ?_ | refine blk_alloc ?_ _)); exact BK120.out) hb); have n5_ := Aside0.mk (below_step (by repeat (first | (with_reducible first | exact HB.out | apply below_alloc | apply pw_below_drewN | apply below_drew1 | refine below_set ?_ GE101.out | refine below_set ?_ GE102.out | refine below_set ?_ GE111.out | refine below_set ?_ GE116.out | refine below_set ?_ GE120.out) | exact HB.out)) hb); clear BK101; clear BK102; clear BK111; clear BK116; clear BK120; clear HB; have BK101 := n0_; have BK102 := n1_; have BK111 := n2_; have BK116 := n3_; have BK120 := n4_; have HB := n5_; clear n0_ n1_ n2_ n3_ n4_ n5_; (try clear hb); (try clear hb2); (try clear hk); (try clear hi); have hcz107_0 : w106.cell? ⟨gb120, 0, none⟩ = some (.int .i64 a0_0) := (blk_cell BK120.out 0).trans rfl; have hcz107_1 : w106.cell? ⟨gb120, 1, none⟩ = some (.int .i64 a0_1) := (blk_cell BK120.out 1).trans rfl; have hcz107_2 : w106.cell? ⟨gb120, 2, none⟩ = some (.int .i64 a0_2) := (blk_cell BK120.out 2).trans rfl; have hcz107_3 : w106.cell? ⟨gb120, 3, none⟩ = some (.int .i64 a0_3) := (blk_cell BK120.out 3).trans rfl; have hfz107_0 := blk_frozen BK120.out 0; have hfz107_1 := blk_frozen BK120.out 1; have hfz107_2 := blk_frozen BK120.out 2; have hfz107_3 := blk_frozen BK120.out 3))
                  repeat (go_quiet (fail); go_upto_if 177 with (first | ((with_reducible refine gate_dst (N := 20) rfl ?_); refine box_event ?hg (N := 20) ?hd (cs := #[.int .i64 0, .int .i64 0, .int .i64 0, .int .i64 0]) (t := 23) ?hr ?_; (case hd => rfl); (case hg => rfl); (case hr => first | (go_simp; done) | (go_simp; rfl)); intro gb120 hg w99 hbox hb; have n0_ := Aside0.mk (bkB BK101 hb); have n1_ := Aside0.mk (bkB BK102 hb); have n2_ := Aside0.mk (bkB BK111 hb); have n3_ := Aside0.mk (bkB BK116 hb); have n4_ := Aside0.mk (below_step (by repeat (first | (with_reducible first | exact HB.out | apply below_alloc | apply pw_below_drewN | apply below_drew1 | refine below_set ?_ GE101.out | refine below_set ?_ GE102.out | refine below_set ?_ GE111.out | refine below_set ?_ GE116.out) | exact HB.out)) hb); have n5_ := Aside0.mk (hbox); have n6_ := Aside0.mk ((by rw [hg]; exact (below_size (by repeat (first | (with_reducible first | exact HB.out | apply below_alloc | apply pw_below_drewN | apply below_drew1 | refine below_set ?_ GE101.out | refine below_set ?_ GE102.out | refine below_set ?_ GE111.out | refine below_set ?_ GE116.out) | exact HB.out))) : w.heap.size ≤ gb120)); have n7_ := Aside0.mk ((by rw [hg]; exact (below_size (by repeat (first | (with_reducible first | exact HB.out | apply below_alloc | apply pw_below_drewN | apply below_drew1 | refine below_set ?_ GE101.out | refine below_set ?_ GE102.out | refine below_set ?_ GE111.out | refine below_set ?_ GE116.out) | exact HB.out))) : w.heap.size ≤ gb120)); have n8_ := Aside0.mk ((bkL BK101 hg : gb101 ≠ gb120)); have n9_ := Aside0.mk ((bkG BK101 hg : gb120 ≠ gb101)); have n10_ := Aside0.mk ((bkL BK102 hg : gb102 ≠ gb120)); have n11_ := Aside0.mk ((bkG BK102 hg : gb120 ≠ gb102)); have n12_ := Aside0.mk ((bkL BK111 hg : gb111 ≠ gb120)); have n13_ := Aside0.mk ((bkG BK111 hg : gb120 ≠ gb111)); have n14_ := Aside0.mk ((bkL BK116 hg : gb116 ≠ gb120)); have n15_ := Aside0.mk ((bkG BK116 hg : gb120 ≠ gb116)); clear BK101; clear BK102; clear BK111; clear BK116; clear HB; have BK101 := n0_; have BK102 := n1_; have BK111 := n2_; have BK116 := n3_; have HB := n4_; have BK120 := n5_; have GW120 := n6_; have GE120 := n7_; have NB101_120 := n8_; have NB120_101 := n9_; have NB102_120 := n10_; have NB120_102 := n11_; have NB111_120 := n12_; have NB120_111 := n13_; have NB116_120 := n14_; have NB120_116 := n15_; clear n0_ n1_ n2_ n3_ n4_ n5_ n6_ n7_ n8_ n9_ n10_ n11_ n12_ n13_ n14_ n15_; clear hb hbox hg; have hnb100 := NB120_101.out; have hnc100 := NB101_120.out; have hnb101 := NB120_102.out; have hnc101 := NB102_120.out; have hnb102 := NB120_111.out; have hnc102 := NB111_120.out; have hnb103 := NB120_116.out; have hnc103 := NB116_120.out; have hcz104_0 : w99.cell? ⟨gb120, 0, none⟩ = some (.int .i64 0) := (blk_cell BK120.out 0).trans rfl; have hcz104_1 : w99.cell? ⟨gb120, 1, none⟩ = some (.int .i64 0) := (blk_cell BK120.out 1).trans rfl; have hcz104_2 : w99.cell? ⟨gb120, 2, none⟩ = some (.int .i64 0) := (blk_cell BK120.out 2).trans rfl; have hcz104_3 : w99.cell? ⟨gb120, 3, none⟩ = some (.int .i64 0) := (blk_cell BK120.out 3).trans rfl; have hfz104_0 := blk_frozen BK120.out 0; have hfz104_1 := blk_frozen BK120.out 1; have hfz104_2 := blk_frozen BK120.out 2; have hfz104_3 := blk_frozen BK120.out 3; have hcz105_0 : w99.cell? ⟨gb101, 0, none⟩ = some (.int .i64 a0_0) := (blk_cell BK101.out 0).trans rfl; have hcz105_1 : w99.cell? ⟨gb101, 1, none⟩ = some (.int .i64 a0_1) := (blk_cell BK101.out 1).trans rfl; have hcz105_2 : w99.cell? ⟨gb101, 2, none⟩ = some (.int .i64 a0_2) := (blk_cell BK101.out 2).trans rfl; have hcz105_3 : w99.cell? ⟨gb101, 3, none⟩ = some (.int .i64 a0_3) := (blk_cell BK101.out 3).trans rfl; have hfz105_0 := blk_frozen BK101.out 0; have hfz105_1 := blk_frozen BK101.out 1; have hfz105_2 := blk_frozen BK101.out 2; have hfz105_3 := blk_frozen BK101.out 3) | (go_at_call 19; (with_reducible refine (pull_Longest.calls kj71 a0_0 a0_1 a0_2 a0_3 ji88 ji89 t121 t122 _ A90.out).mono ?_); rintro e w106 ⟨rfl, hb⟩; have n0_ := Aside0.mk (blk_below (g := gb101) (o := .cells #[.int .i64 a0_0, .int .i64 a0_1, .int .i64 a0_2, .int .i64 a0_3] 23 (0, 0)) (by (with_reducible repeat (first | refine blk_drewN ?_ _ | refine blk_drew ?_ | refine blk_alloc ?_ _)); refine blk_far ?_ NB101_120.out _; (with_reducible repeat (first | refine blk_drewN ?_ _ | refine blk_drew ?_ | refine blk_alloc ?_ _)); refine blk_far ?_ NB101_120.out _; (with_reducible repeat (first | refine blk_drewN ?_ _ | refine blk_drew ?_ | refine blk_alloc ?_ _)); refine blk_far ?_ NB101_120.out _; (with_reducible repeat (first | refine blk_drewN ?_ _ | refine blk_drew ?_ | refine blk_alloc ?_ _)); refine blk_far ?_ NB101_120.out _; (with_reducible repeat (first | refine blk_drewN ?_ _ | refine blk_drew ?_ | refine blk_alloc ?_ _)); exact BK101.out) hb); have n1_ := Aside0.mk (blk_below (g := gb102) (o := .cells #[.int .u8 a1_0, .int .u8 a1_1, .int .u8 a1_2] 62 (0, 0)) (by (with_reducible repeat (first | refine blk_drewN ?_ _ | refine blk_drew ?_ | refine blk_alloc ?_ _)); refine blk_far ?_ NB102_120.out _; (with_reducible repeat (first | refine blk_drewN ?_ _ | refine blk_drew ?_ | refine blk_alloc ?_ _)); refine blk_far ?_ NB102_120.out _; (with_reducible repeat (first | refine blk_drewN ?_ _ | refine blk_drew ?_ | refine blk_alloc ?_ _)); refine blk_far ?_ NB102_120.out _; (with_reducible repeat (first | refine blk_drewN ?_ _ | refine blk_drew ?_ | refine blk_alloc ?_ _)); refine blk_far ?_ NB102_120.out _; (with_reducible repeat (first | refine blk_drewN ?_ _ | refine blk_drew ?_ | refine blk_alloc ?_ _)); exact BK102.out) hb); have n2_ := Aside0.mk (blk_below (g := gb111) (o := .cells #[.int .i64 t108, .int .i64 t109] 25 (0, 0)) (by (with_reducible repeat (first | refine blk_drewN ?_ _ | refine blk_drew ?_ | refine blk_alloc ?_ _)); refine blk_far ?_ NB111_120.out _; (with_reducible repeat (first | refine blk_drewN ?_ _ | refine blk_drew ?_ | refine blk_alloc ?_ _)); refine blk_far ?_ NB111_120.out _; (with_reducible repeat (first | refine blk_drewN ?_ _ | refine blk_drew ?_ | refine blk_alloc ?_ _)); refine blk_far ?_ NB111_120.out _; (with_reducible repeat (first | refine blk_drewN ?_ _ | refine blk_drew ?_ | refine blk_alloc ?_ _)); refine blk_far ?_ NB111_120.out _; (with_reducible repeat (first | refine blk_drewN ?_ _ | refine blk_drew ?_ | refine blk_alloc ?_ _)); exact BK111.out) hb); have n3_ := Aside0.mk (blk_below (g := gb116) (o := .cells #[.int .i64 (wrap64 (1 + (Int.tmod (wrap64 (a2)) a0_0))), .int .i64 a0_1, .int .i64 a0_2, .int .i64 a0_3] 23 (0, 0)) (by (with_reducible repeat (first | refine blk_drewN ?_ _ | refine blk_drew ?_ | refine blk_alloc ?_ _)); refine blk_far ?_ NB116_120.out _; (with_reducible repeat (first | refine blk_drewN ?_ _ | refine blk_drew ?_ | refine blk_alloc ?_ _)); refine blk_far ?_ NB116_120.out _; (with_reducible repeat (first | refine blk_drewN ?_ _ | refine blk_drew ?_ | refine blk_alloc ?_ _)); refine blk_far ?_ NB116_120.out _; (with_reducible repeat (first | refine blk_drewN ?_ _ | refine blk_drew ?_ | refine blk_alloc ?_ _)); refine blk_far ?_ NB116_120.out _; (with_reducible repeat (first | refine blk_drewN ?_ _ | refine blk_drew ?_ | refine blk_alloc ?_ _)); exact BK116.out) hb); have n4_ := Aside0.mk (blk_below (g := gb120) (o := .cells #[.int .i64 a0_0, .int .i64 a0_1, .int .i64 a0_2, .int .i64 a0_3] 23 (0, 0)) (by (with_reducible repeat (first | refine blk_drewN ?_ _ | refine blk_drew ?_ | refine blk_alloc ?_ _)); refine blk_put (cs := #[.int .i64 a0_0, .int .i64 a0_1, .int .i64 a0_2, .int .i64 0]) ?_ 3 _ rfl; (with_reducible repeat (first | refine blk_drewN ?_ _ | refine blk_drew ?_ | refine blk_alloc ?_ _)); refine blk_put (cs := #[.int .i64 a0_0, .int .i64 a0_1, .int .i64 0, .int .i64 0]) ?_ 2 _ rfl; (with_reducible repeat (first | refine blk_drewN ?_ _ | refine blk_drew ?_ | refine blk_alloc ?_ _)); refine blk_put (cs := #[.int .i64 a0_0, .int .i64 0, .int .i64 0, .int .i64 0]) ?_ 1 _ rfl; (with_reducible repeat (first | refine blk_drewN ?_ _ | refine blk_drew ?_ | refine blk_alloc ?_ _)); refine blk_put (cs := #[.int .i64 0, .int .i64 0, .int .i64 0, .int .i64 0]) ?_ 0 _ rfl; (with_reducible repeat (first | refine blk_drewN ?_ _ | refine blk_drew ?_ | refine blk_alloc ?_ _)); exact BK120.out) hb); have n5_ := Aside0.mk (below_step (by repeat (first | (with_reducible first | exact HB.out | apply below_alloc | apply pw_below_drewN | apply below_drew1 | refine below_set ?_ GE101.out | refine below_set ?_ GE102.out | refine below_set ?_ GE111.out | refine below_set ?_ GE116.out | refine below_set ?_ GE120.out) | exact HB.out)) hb); clear BK101; clear BK102; clear BK111; clear BK116; clear BK120; clear HB; have BK101 := n0_; have BK102 := n1_; have BK111 := n2_; have BK116 := n3_; have BK120 := n4_; have HB := n5_; clear n0_ n1_ n2_ n3_ n4_ n5_; (try clear hb); (try clear hb2); (try clear hk); (try clear hi); have hcz107_0 : w106.cell? ⟨gb120, 0, none⟩ = some (.int .i64 a0_0) := (blk_cell BK120.out 0).trans rfl; have hcz107_1 : w106.cell? ⟨gb120, 1, none⟩ = some (.int .i64 a0_1) := (blk_cell BK120.out 1).trans rfl; have hcz107_2 : w106.cell? ⟨gb120, 2, none⟩ = some (.int .i64 a0_2) := (blk_cell BK120.out 2).trans rfl; have hcz107_3 : w106.cell? ⟨gb120, 3, none⟩ = some (.int .i64 a0_3) := (blk_cell BK120.out 3).trans rfl; have hfz107_0 := blk_frozen BK120.out 0; have hfz107_1 := blk_frozen BK120.out 1; have hfz107_2 := blk_frozen BK120.out 2; have hfz107_3 := blk_frozen BK120.out 3)))
                  (try simp only [Act.put, List.setIfInBounds_toArray, List.set_cons_zero, List.set_cons_succ])
                  go_cut [] (fun wc => ∃ (kq : Nat), Aside0 (dropperlaw04_PullFree.j4 kq ji88 ji89 a0_0 a0_1 a0_2 a0_3 = some r) ∧ Aside0 (kq ≤ kj71) ∧ Aside0 (wc.heap[gb101]? = some (.cells #[.int .i64 a0_0, .int .i64 a0_1, .int .i64 a0_2, .int .i64 a0_3] 23 (0, 0))) ∧ Aside0 (wc.heap[gb102]? = some (.cells #[.int .u8 a1_0, .int .u8 a1_1, .int .u8 a1_2] 62 (0, 0))) ∧ Aside0 (wc.heap[gb111]? = some (.cells #[.int .i64 t108, .int .i64 t109] 25 (0, 0))) ∧ Aside0 (wc.heap[gb116]? = some (.cells #[.int .i64 (wrap64 (1 + (Int.tmod (wrap64 (a2)) a0_0))), .int .i64 a0_1, .int .i64 a0_2, .int .i64 a0_3] 23 (0, 0))) ∧ Aside0 (wc.heap[gb120]? = some (.cells #[.int .i64 t121, .int .i64 a0_1, .int .i64 a0_2, .int .i64 a0_3] 23 (0, 0))) ∧ Aside0 (Below w.heap.size w wc))
                  case first =>
                    as_aux_lemma =>
                    have H := HC91.out
                    clear HC91
                    by_cases c108 : t122 = 0
                    rotate_left
                    · rw [if_neg c108] at H
                      have c108b0 : (t122 == 0) = false := beq_eq_false_iff_ne.mpr c108
                      have c108b1 : (t122 != 0) = true := bne_iff_ne.mpr c108
                      (first | rw [c108b0] | (simp only [i64_w, i32_w]; rw [c108b0]) | skip)
                      by_cases c141 : t122 = 5
                      rotate_left
                      · rw [if_neg c141] at H
                        have c141b0 : (t122 == 5) = false := beq_eq_false_iff_ne.mpr c141
                        have c141b1 : (t122 != 5) = true := bne_iff_ne.mpr c141
                        exact absurd (hT.symm.trans (Option.some.inj H).symm) (by decide)
                      rw [if_pos c141] at H
                      have c141b0 : (t122 == 5) = true := beq_iff_eq.mpr c141
                      have c141b1 : (t122 != 5) = false := bne_eq_false_iff_eq.mpr c141
                      clear c141
                      have H' := Aside0.mk H
                      clear H
                      go_wp2
                      repeat (go_quiet (fail); try go_wp2)
                      go_meet
                      case rel => exact ⟨_, H', ⟨by have := HJ7.out; have := HJ32.out; have := HJ53.out; have := HJ71.out; first | omega | exact Nat.le_refl _⟩, ⟨by (with_reducible repeat (first | refine blk_drewN ?_ _ | refine blk_drew ?_ | refine blk_alloc ?_ _)); refine blk_far ?_ NB101_120.out _; (with_reducible repeat (first | refine blk_drewN ?_ _ | refine blk_drew ?_ | refine blk_alloc ?_ _)); exact BK101.out⟩, ⟨by (with_reducible repeat (first | refine blk_drewN ?_ _ | refine blk_drew ?_ | refine blk_alloc ?_ _)); refine blk_far ?_ NB102_120.out _; (with_reducible repeat (first | refine blk_drewN ?_ _ | refine blk_drew ?_ | refine blk_alloc ?_ _)); exact BK102.out⟩, ⟨by (with_reducible repeat (first | refine blk_drewN ?_ _ | refine blk_drew ?_ | refine blk_alloc ?_ _)); refine blk_far ?_ NB111_120.out _; (with_reducible repeat (first | refine blk_drewN ?_ _ | refine blk_drew ?_ | refine blk_alloc ?_ _)); exact BK111.out⟩, ⟨by (with_reducible repeat (first | refine blk_drewN ?_ _ | refine blk_drew ?_ | refine blk_alloc ?_ _)); refine blk_far ?_ NB116_120.out _; (with_reducible repeat (first | refine blk_drewN ?_ _ | refine blk_drew ?_ | refine blk_alloc ?_ _)); exact BK116.out⟩, ⟨by (with_reducible repeat (first | refine blk_drewN ?_ _ | refine blk_drew ?_ | refine blk_alloc ?_ _)); refine blk_put (cs := #[.int .i64 a0_0, .int .i64 a0_1, .int .i64 a0_2, .int .i64 a0_3]) ?_ 0 _ rfl; (with_reducible repeat (first | refine blk_drewN ?_ _ | refine blk_drew ?_ | refine blk_alloc ?_ _)); exact BK120.out⟩, ⟨by repeat (first | (with_reducible first | exact HB.out | apply below_alloc | apply pw_below_drewN | apply below_drew1 | refine below_set ?_ GE101.out | refine below_set ?_ GE102.out | refine below_set ?_ GE111.out | refine below_set ?_ GE116.out | refine below_set ?_ GE120.out) | exact HB.out)⟩⟩
                    rw [if_pos c108] at H
                    have c108b0 : (t122 == 0) = true := beq_iff_eq.mpr c108
                    have c108b1 : (t122 != 0) = false := bne_eq_false_iff_eq.mpr c108
                    clear c108
                    (first | rw [c108b0] | (simp only [i64_w, i32_w]; rw [c108b0]) | skip)
                    replace H := Option.bind_eq_some_iff.mp H
                    obtain ⟨⟨t123, t124, t125⟩, A1090, H⟩ := H
                    replace H : (if t125 = 0 then (if (ji88) < t123 then (if (ji88) < 0 then (some false) else (if (ji89) > t124 then (if (ji89) > 0 then (some false) else (dropperlaw04_PullFree.j4 kj71 ji88 ji89 a0_0 a0_1 a0_2 a0_3)) else (dropperlaw04_PullFree.j4 kj71 ji88 ji89 a0_0 a0_1 a0_2 a0_3))) else (if (ji89) > t124 then (if (ji89) > 0 then (some false) else (dropperlaw04_PullFree.j4 kj71 ji88 ji89 a0_0 a0_1 a0_2 a0_3)) else (dropperlaw04_PullFree.j4 kj71 ji88 ji89 a0_0 a0_1 a0_2 a0_3))) else (some false)) = some r := H
                    have A109 := Aside0.mk A1090
                    clear A1090
                    by_cases c110 : t125 = 0
                    rotate_left
                    · rw [if_neg c110] at H
                      have c110b0 : (t125 == 0) = false := beq_eq_false_iff_ne.mpr c110
                      have c110b1 : (t125 != 0) = true := bne_iff_ne.mpr c110
                      exact absurd (hT.symm.trans (Option.some.inj H).symm) (by decide)
                    rw [if_pos c110] at H
                    have c110b0 : (t125 == 0) = true := beq_iff_eq.mpr c110
                    have c110b1 : (t125 != 0) = false := bne_eq_false_iff_eq.mpr c110
                    clear c110
                    by_cases c111 : (ji88) < t123
                    rotate_left
                    · rw [if_neg c111] at H
                      have c111b0 : decide ((ji88) < t123) = false := decide_eq_false c111
                      clear c111
                      by_cases c127 : (ji89) > t124
                      rotate_left
                      · rw [if_neg c127] at H
                        have c127b0 : decide (t124 < (ji89)) = false := decide_eq_false c127
                        clear c127
                        have H' := Aside0.mk H
                        clear H
                        have hnb135 := NB120_101.out
                        have hnc135 := NB101_120.out
                        have hnb136 := NB120_102.out
                        have hnc136 := NB102_120.out
                        have hnb137 := NB120_111.out
                        have hnc137 := NB111_120.out
                        have hnb138 := NB120_116.out
                        have hnc138 := NB116_120.out
                        have hcz139_0 : w106.cell? ⟨gb120, 0, none⟩ = some (.int .i64 a0_0) := (blk_cell BK120.out 0).trans rfl
                        have hcz139_1 : w106.cell? ⟨gb120, 1, none⟩ = some (.int .i64 a0_1) := (blk_cell BK120.out 1).trans rfl
                        have hcz139_2 : w106.cell? ⟨gb120, 2, none⟩ = some (.int .i64 a0_2) := (blk_cell BK120.out 2).trans rfl
                        have hcz139_3 : w106.cell? ⟨gb120, 3, none⟩ = some (.int .i64 a0_3) := (blk_cell BK120.out 3).trans rfl
                        have hfz139_0 := blk_frozen BK120.out 0
                        have hfz139_1 := blk_frozen BK120.out 1
                        have hfz139_2 := blk_frozen BK120.out 2
                        have hfz139_3 := blk_frozen BK120.out 3
                        go_wp2_with (first | (go_at_call 14; (with_reducible refine (pull_Free.calls kj71 t121 a0_1 a0_2 a0_3 t123 t124 t125 _ A109.out).mono ?_); rintro e w140 ⟨rfl, hb⟩; have n0_ := Aside0.mk (blk_below (g := gb101) (o := .cells #[.int .i64 a0_0, .int .i64 a0_1, .int .i64 a0_2, .int .i64 a0_3] 23 (0, 0)) (bkF1 BK101 NB101_120) hb); have n1_ := Aside0.mk (blk_below (g := gb102) (o := .cells #[.int .u8 a1_0, .int .u8 a1_1, .int .u8 a1_2] 62 (0, 0)) (bkF1 BK102 NB102_120) hb); have n2_ := Aside0.mk (blk_below (g := gb111) (o := .cells #[.int .i64 t108, .int .i64 t109] 25 (0, 0)) (bkF1 BK111 NB111_120) hb); have n3_ := Aside0.mk (blk_below (g := gb116) (o := .cells #[.int .i64 (wrap64 (1 + (Int.tmod (wrap64 (a2)) a0_0))), .int .i64 a0_1, .int .i64 a0_2, .int .i64 a0_3] 23 (0, 0)) (bkF1 BK116 NB116_120) hb); have n4_ := Aside0.mk (blk_below (g := gb120) (o := .cells #[.int .i64 t121, .int .i64 a0_1, .int .i64 a0_2, .int .i64 a0_3] 23 (0, 0)) (by (with_reducible repeat (first | refine blk_drewN ?_ _ | refine blk_drew ?_ | refine blk_alloc ?_ _)); refine blk_put (cs := #[.int .i64 a0_0, .int .i64 a0_1, .int .i64 a0_2, .int .i64 a0_3]) ?_ 0 _ rfl; (with_reducible repeat (first | refine blk_drewN ?_ _ | refine blk_drew ?_ | refine blk_alloc ?_ _)); exact BK120.out) hb); have n5_ := Aside0.mk (below_step (by repeat (first | (with_reducible first | exact HB.out | apply below_alloc | apply pw_below_drewN | apply below_drew1 | refine below_set ?_ GE101.out | refine below_set ?_ GE102.out | refine below_set ?_ GE111.out | refine below_set ?_ GE116.out | refine below_set ?_ GE120.out) | exact HB.out)) hb); clear BK101; clear BK102; clear BK111; clear BK116; clear BK120; clear HB; have BK101 := n0_; have BK102 := n1_; have BK111 := n2_; have BK116 := n3_; have BK120 := n4_; have HB := n5_; clear n0_ n1_ n2_ n3_ n4_ n5_; (try clear hb); (try clear hb2); (try clear hk); (try clear hi)))
                        repeat (go_quiet (first | (go_at_call 14; (with_reducible refine (pull_Free.calls kj71 t121 a0_1 a0_2 a0_3 t123 t124 t125 _ A109.out).mono ?_); rintro e w140 ⟨rfl, hb⟩; have n0_ := Aside0.mk (blk_below (g := gb101) (o := .cells #[.int .i64 a0_0, .int .i64 a0_1, .int .i64 a0_2, .int .i64 a0_3] 23 (0, 0)) (bkF1 BK101 NB101_120) hb); have n1_ := Aside0.mk (blk_below (g := gb102) (o := .cells #[.int .u8 a1_0, .int .u8 a1_1, .int .u8 a1_2] 62 (0, 0)) (bkF1 BK102 NB102_120) hb); have n2_ := Aside0.mk (blk_below (g := gb111) (o := .cells #[.int .i64 t108, .int .i64 t109] 25 (0, 0)) (bkF1 BK111 NB111_120) hb); have n3_ := Aside0.mk (blk_below (g := gb116) (o := .cells #[.int .i64 (wrap64 (1 + (Int.tmod (wrap64 (a2)) a0_0))), .int .i64 a0_1, .int .i64 a0_2, .int .i64 a0_3] 23 (0, 0)) (bkF1 BK116 NB116_120) hb); have n4_ := Aside0.mk (blk_below (g := gb120) (o := .cells #[.int .i64 t121, .int .i64 a0_1, .int .i64 a0_2, .int .i64 a0_3] 23 (0, 0)) (by (with_reducible repeat (first | refine blk_drewN ?_ _ | refine blk_drew ?_ | refine blk_alloc ?_ _)); refine blk_put (cs := #[.int .i64 a0_0, .int .i64 a0_1, .int .i64 a0_2, .int .i64 a0_3]) ?_ 0 _ rfl; (with_reducible repeat (first | refine blk_drewN ?_ _ | refine blk_drew ?_ | refine blk_alloc ?_ _)); exact BK120.out) hb); have n5_ := Aside0.mk (below_step (by repeat (first | (with_reducible first | exact HB.out | apply below_alloc | apply pw_below_drewN | apply below_drew1 | refine below_set ?_ GE101.out | refine below_set ?_ GE102.out | refine below_set ?_ GE111.out | refine below_set ?_ GE116.out | refine below_set ?_ GE120.out) | exact HB.out)) hb); clear BK101; clear BK102; clear BK111; clear BK116; clear BK120; clear HB; have BK101 := n0_; have BK102 := n1_; have BK111 := n2_; have BK116 := n3_; have BK120 := n4_; have HB := n5_; clear n0_ n1_ n2_ n3_ n4_ n5_; (try clear hb); (try clear hb2); (try clear hk); (try clear hi))); try go_wp2_with (first | (go_at_call 14; (with_reducible refine (pull_Free.calls kj71 t121 a0_1 a0_2 a0_3 t123 t124 t125 _ A109.out).mono ?_); rintro e w140 ⟨rfl, hb⟩; have n0_ := Aside0.mk (blk_below (g := gb101) (o := .cells #[.int .i64 a0_0, .int .i64 a0_1, .int .i64 a0_2, .int .i64 a0_3] 23 (0, 0)) (bkF1 BK101 NB101_120) hb); have n1_ := Aside0.mk (blk_below (g := gb102) (o := .cells #[.int .u8 a1_0, .int .u8 a1_1, .int .u8 a1_2] 62 (0, 0)) (bkF1 BK102 NB102_120) hb); have n2_ := Aside0.mk (blk_below (g := gb111) (o := .cells #[.int .i64 t108, .int .i64 t109] 25 (0, 0)) (bkF1 BK111 NB111_120) hb); have n3_ := Aside0.mk (blk_below (g := gb116) (o := .cells #[.int .i64 (wrap64 (1 + (Int.tmod (wrap64 (a2)) a0_0))), .int .i64 a0_1, .int .i64 a0_2, .int .i64 a0_3] 23 (0, 0)) (bkF1 BK116 NB116_120) hb); have n4_ := Aside0.mk (blk_below (g := gb120) (o := .cells #[.int .i64 t121, .int .i64 a0_1, .int .i64 a0_2, .int .i64 a0_3] 23 (0, 0)) (by (with_reducible repeat (first | refine blk_drewN ?_ _ | refine blk_drew ?_ | refine blk_alloc ?_ _)); refine blk_put (cs := #[.int .i64 a0_0, .int .i64 a0_1, .int .i64 a0_2, .int .i64 a0_3]) ?_ 0 _ rfl; (with_reducible repeat (first | refine blk_drewN ?_ _ | refine blk_drew ?_ | refine blk_alloc ?_ _)); exact BK120.out) hb); have n5_ := Aside0.mk (below_step (by repeat (first | (with_reducible first | exact HB.out | apply below_alloc | apply pw_below_drewN | apply below_drew1 | refine below_set ?_ GE101.out | refine below_set ?_ GE102.out | refine below_set ?_ GE111.out | refine below_set ?_ GE116.out | refine below_set ?_ GE120.out) | exact HB.out)) hb); clear BK101; clear BK102; clear BK111; clear BK116; clear BK120; clear HB; have BK101 := n0_; have BK102 := n1_; have BK111 := n2_; have BK116 := n3_; have BK120 := n4_; have HB := n5_; clear n0_ n1_ n2_ n3_ n4_ n5_; (try clear hb); (try clear hb2); (try clear hk); (try clear hi))))
                        go_meet
                        case rel => exact ⟨_, H', ⟨by have := HJ7.out; have := HJ32.out; have := HJ53.out; have := HJ71.out; first | omega | exact Nat.le_refl _⟩, ⟨bkU BK101⟩, ⟨bkU BK102⟩, ⟨bkU BK111⟩, ⟨bkU BK116⟩, ⟨bkU BK120⟩, ⟨by repeat (first | (with_reducible first | exact HB.out | apply below_alloc | apply pw_below_drewN | apply below_drew1 | refine below_set ?_ GE101.out | refine below_set ?_ GE102.out | refine below_set ?_ GE111.out | refine below_set ?_ GE116.out | refine below_set ?_ GE120.out) | exact HB.out)⟩⟩
                      rw [if_pos c127] at H
                      have c127b0 : decide (t124 < (ji89)) = true := decide_eq_true c127
                      clear c127
                      by_cases c128 : (ji89) > 0
                      · rw [if_pos c128] at H
                        have c128b0 : decide (0 < (ji89)) = true := decide_eq_true c128
                        clear c128
                        exact absurd (hT.symm.trans (Option.some.inj H).symm) (by decide)
                      rw [if_neg c128] at H
                      have c128b0 : decide (0 < (ji89)) = false := decide_eq_false c128
                      clear c128
                      have H' := Aside0.mk H
                      clear H
                      have hnb129 := NB120_101.out
                      have hnc129 := NB101_120.out
                      have hnb130 := NB120_102.out
                      have hnc130 := NB102_120.out
                      have hnb131 := NB120_111.out
                      have hnc131 := NB111_120.out
                      have hnb132 := NB120_116.out
                      have hnc132 := NB116_120.out
                      have hcz133_0 : w106.cell? ⟨gb120, 0, none⟩ = some (.int .i64 a0_0) := (blk_cell BK120.out 0).trans rfl
                      have hcz133_1 : w106.cell? ⟨gb120, 1, none⟩ = some (.int .i64 a0_1) := (blk_cell BK120.out 1).trans rfl
                      have hcz133_2 : w106.cell? ⟨gb120, 2, none⟩ = some (.int .i64 a0_2) := (blk_cell BK120.out 2).trans rfl
                      have hcz133_3 : w106.cell? ⟨gb120, 3, none⟩ = some (.int .i64 a0_3) := (blk_cell BK120.out 3).trans rfl
                      have hfz133_0 := blk_frozen BK120.out 0
                      have hfz133_1 := blk_frozen BK120.out 1
                      have hfz133_2 := blk_frozen BK120.out 2
                      have hfz133_3 := blk_frozen BK120.out 3
                      go_wp2_with (first | (go_at_call 14; (with_reducible refine (pull_Free.calls kj71 t121 a0_1 a0_2 a0_3 t123 t124 t125 _ A109.out).mono ?_); rintro e w134 ⟨rfl, hb⟩; have n0_ := Aside0.mk (blk_below (g := gb101) (o := .cells #[.int .i64 a0_0, .int .i64 a0_1, .int .i64 a0_2, .int .i64 a0_3] 23 (0, 0)) (bkF1 BK101 NB101_120) hb); have n1_ := Aside0.mk (blk_below (g := gb102) (o := .cells #[.int .u8 a1_0, .int .u8 a1_1, .int .u8 a1_2] 62 (0, 0)) (bkF1 BK102 NB102_120) hb); have n2_ := Aside0.mk (blk_below (g := gb111) (o := .cells #[.int .i64 t108, .int .i64 t109] 25 (0, 0)) (bkF1 BK111 NB111_120) hb); have n3_ := Aside0.mk (blk_below (g := gb116) (o := .cells #[.int .i64 (wrap64 (1 + (Int.tmod (wrap64 (a2)) a0_0))), .int .i64 a0_1, .int .i64 a0_2, .int .i64 a0_3] 23 (0, 0)) (bkF1 BK116 NB116_120) hb); have n4_ := Aside0.mk (blk_below (g := gb120) (o := .cells #[.int .i64 t121, .int .i64 a0_1, .int .i64 a0_2, .int .i64 a0_3] 23 (0, 0)) (by (with_reducible repeat (first | refine blk_drewN ?_ _ | refine blk_drew ?_ | refine blk_alloc ?_ _)); refine blk_put (cs := #[.int .i64 a0_0, .int .i64 a0_1, .int .i64 a0_2, .int .i64 a0_3]) ?_ 0 _ rfl; (with_reducible repeat (first | refine blk_drewN ?_ _ | refine blk_drew ?_ | refine blk_alloc ?_ _)); exact BK120.out) hb); have n5_ := Aside0.mk (below_step (by repeat (first | (with_reducible first | exact HB.out | apply below_alloc | apply pw_below_drewN | apply below_drew1 | refine below_set ?_ GE101.out | refine below_set ?_ GE102.out | refine below_set ?_ GE111.out | refine below_set ?_ GE116.out | refine below_set ?_ GE120.out) | exact HB.out)) hb); clear BK101; clear BK102; clear BK111; clear BK116; clear BK120; clear HB; have BK101 := n0_; have BK102 := n1_; have BK111 := n2_; have BK116 := n3_; have BK120 := n4_; have HB := n5_; clear n0_ n1_ n2_ n3_ n4_ n5_; (try clear hb); (try clear hb2); (try clear hk); (try clear hi)))
                      repeat (go_quiet (first | (go_at_call 14; (with_reducible refine (pull_Free.calls kj71 t121 a0_1 a0_2 a0_3 t123 t124 t125 _ A109.out).mono ?_); rintro e w134 ⟨rfl, hb⟩; have n0_ := Aside0.mk (blk_below (g := gb101) (o := .cells #[.int .i64 a0_0, .int .i64 a0_1, .int .i64 a0_2, .int .i64 a0_3] 23 (0, 0)) (bkF1 BK101 NB101_120) hb); have n1_ := Aside0.mk (blk_below (g := gb102) (o := .cells #[.int .u8 a1_0, .int .u8 a1_1, .int .u8 a1_2] 62 (0, 0)) (bkF1 BK102 NB102_120) hb); have n2_ := Aside0.mk (blk_below (g := gb111) (o := .cells #[.int .i64 t108, .int .i64 t109] 25 (0, 0)) (bkF1 BK111 NB111_120) hb); have n3_ := Aside0.mk (blk_below (g := gb116) (o := .cells #[.int .i64 (wrap64 (1 + (Int.tmod (wrap64 (a2)) a0_0))), .int .i64 a0_1, .int .i64 a0_2, .int .i64 a0_3] 23 (0, 0)) (bkF1 BK116 NB116_120) hb); have n4_ := Aside0.mk (blk_below (g := gb120) (o := .cells #[.int .i64 t121, .int .i64 a0_1, .int .i64 a0_2, .int .i64 a0_3] 23 (0, 0)) (by (with_reducible repeat (first | refine blk_drewN ?_ _ | refine blk_drew ?_ | refine blk_alloc ?_ _)); refine blk_put (cs := #[.int .i64 a0_0, .int .i64 a0_1, .int .i64 a0_2, .int .i64 a0_3]) ?_ 0 _ rfl; (with_reducible repeat (first | refine blk_drewN ?_ _ | refine blk_drew ?_ | refine blk_alloc ?_ _)); exact BK120.out) hb); have n5_ := Aside0.mk (below_step (by repeat (first | (with_reducible first | exact HB.out | apply below_alloc | apply pw_below_drewN | apply below_drew1 | refine below_set ?_ GE101.out | refine below_set ?_ GE102.out | refine below_set ?_ GE111.out | refine below_set ?_ GE116.out | refine below_set ?_ GE120.out) | exact HB.out)) hb); clear BK101; clear BK102; clear BK111; clear BK116; clear BK120; clear HB; have BK101 := n0_; have BK102 := n1_; have BK111 := n2_; have BK116 := n3_; have BK120 := n4_; have HB := n5_; clear n0_ n1_ n2_ n3_ n4_ n5_; (try clear hb); (try clear hb2); (try clear hk); (try clear hi))); try go_wp2_with (first | (go_at_call 14; (with_reducible refine (pull_Free.calls kj71 t121 a0_1 a0_2 a0_3 t123 t124 t125 _ A109.out).mono ?_); rintro e w134 ⟨rfl, hb⟩; have n0_ := Aside0.mk (blk_below (g := gb101) (o := .cells #[.int .i64 a0_0, .int .i64 a0_1, .int .i64 a0_2, .int .i64 a0_3] 23 (0, 0)) (bkF1 BK101 NB101_120) hb); have n1_ := Aside0.mk (blk_below (g := gb102) (o := .cells #[.int .u8 a1_0, .int .u8 a1_1, .int .u8 a1_2] 62 (0, 0)) (bkF1 BK102 NB102_120) hb); have n2_ := Aside0.mk (blk_below (g := gb111) (o := .cells #[.int .i64 t108, .int .i64 t109] 25 (0, 0)) (bkF1 BK111 NB111_120) hb); have n3_ := Aside0.mk (blk_below (g := gb116) (o := .cells #[.int .i64 (wrap64 (1 + (Int.tmod (wrap64 (a2)) a0_0))), .int .i64 a0_1, .int .i64 a0_2, .int .i64 a0_3] 23 (0, 0)) (bkF1 BK116 NB116_120) hb); have n4_ := Aside0.mk (blk_below (g := gb120) (o := .cells #[.int .i64 t121, .int .i64 a0_1, .int .i64 a0_2, .int .i64 a0_3] 23 (0, 0)) (by (with_reducible repeat (first | refine blk_drewN ?_ _ | refine blk_drew ?_ | refine blk_alloc ?_ _)); refine blk_put (cs := #[.int .i64 a0_0, .int .i64 a0_1, .int .i64 a0_2, .int .i64 a0_3]) ?_ 0 _ rfl; (with_reducible repeat (first | refine blk_drewN ?_ _ | refine blk_drew ?_ | refine blk_alloc ?_ _)); exact BK120.out) hb); have n5_ := Aside0.mk (below_step (by repeat (first | (with_reducible first | exact HB.out | apply below_alloc | apply pw_below_drewN | apply below_drew1 | refine below_set ?_ GE101.out | refine below_set ?_ GE102.out | refine below_set ?_ GE111.out | refine below_set ?_ GE116.out | refine below_set ?_ GE120.out) | exact HB.out)) hb); clear BK101; clear BK102; clear BK111; clear BK116; clear BK120; clear HB; have BK101 := n0_; have BK102 := n1_; have BK111 := n2_; have BK116 := n3_; have BK120 := n4_; have HB := n5_; clear n0_ n1_ n2_ n3_ n4_ n5_; (try clear hb); (try clear hb2); (try clear hk); (try clear hi))))
                      go_meet
                      case rel => exact ⟨_, H', ⟨by have := HJ7.out; have := HJ32.out; have := HJ53.out; have := HJ71.out; first | omega | exact Nat.le_refl _⟩, ⟨bkU BK101⟩, ⟨bkU BK102⟩, ⟨bkU BK111⟩, ⟨bkU BK116⟩, ⟨bkU BK120⟩, ⟨by repeat (first | (with_reducible first | exact HB.out | apply below_alloc | apply pw_below_drewN | apply below_drew1 | refine below_set ?_ GE101.out | refine below_set ?_ GE102.out | refine below_set ?_ GE111.out | refine below_set ?_ GE116.out | refine below_set ?_ GE120.out) | exact HB.out)⟩⟩
                    rw [if_pos c111] at H
                    have c111b0 : decide ((ji88) < t123) = true := decide_eq_true c111
                    clear c111
                    by_cases c112 : (ji88) < 0
                    · rw [if_pos c112] at H
                      have c112b0 : decide ((ji88) < 0) = true := decide_eq_true c112
                      clear c112
                      exact absurd (hT.symm.trans (Option.some.inj H).symm) (by decide)
                    rw [if_neg c112] at H
                    have c112b0 : decide ((ji88) < 0) = false := decide_eq_false c112
                    clear c112
                    by_cases c113 : (ji89) > t124
                    rotate_left
                    · rw [if_neg c113] at H
                      have c113b0 : decide (t124 < (ji89)) = false := decide_eq_false c113
                      clear c113
                      have H' := Aside0.mk H
                      clear H
                      have hnb121 := NB120_101.out
                      have hnc121 := NB101_120.out
                      have hnb122 := NB120_102.out
                      have hnc122 := NB102_120.out
                      have hnb123 := NB120_111.out
                      have hnc123 := NB111_120.out
                      have hnb124 := NB120_116.out
                      have hnc124 := NB116_120.out
                      have hcz125_0 : w106.cell? ⟨gb120, 0, none⟩ = some (.int .i64 a0_0) := (blk_cell BK120.out 0).trans rfl
                      have hcz125_1 : w106.cell? ⟨gb120, 1, none⟩ = some (.int .i64 a0_1) := (blk_cell BK120.out 1).trans rfl
                      have hcz125_2 : w106.cell? ⟨gb120, 2, none⟩ = some (.int .i64 a0_2) := (blk_cell BK120.out 2).trans rfl
                      have hcz125_3 : w106.cell? ⟨gb120, 3, none⟩ = some (.int .i64 a0_3) := (blk_cell BK120.out 3).trans rfl
                      have hfz125_0 := blk_frozen BK120.out 0
                      have hfz125_1 := blk_frozen BK120.out 1
                      have hfz125_2 := blk_frozen BK120.out 2
                      have hfz125_3 := blk_frozen BK120.out 3
                      go_wp2_with (first | (go_at_call 14; (with_reducible refine (pull_Free.calls kj71 t121 a0_1 a0_2 a0_3 t123 t124 t125 _ A109.out).mono ?_); rintro e w126 ⟨rfl, hb⟩; have n0_ := Aside0.mk (blk_below (g := gb101) (o := .cells #[.int .i64 a0_0, .int .i64 a0_1, .int .i64 a0_2, .int .i64 a0_3] 23 (0, 0)) (bkF1 BK101 NB101_120) hb); have n1_ := Aside0.mk (blk_below (g := gb102) (o := .cells #[.int .u8 a1_0, .int .u8 a1_1, .int .u8 a1_2] 62 (0, 0)) (bkF1 BK102 NB102_120) hb); have n2_ := Aside0.mk (blk_below (g := gb111) (o := .cells #[.int .i64 t108, .int .i64 t109] 25 (0, 0)) (bkF1 BK111 NB111_120) hb); have n3_ := Aside0.mk (blk_below (g := gb116) (o := .cells #[.int .i64 (wrap64 (1 + (Int.tmod (wrap64 (a2)) a0_0))), .int .i64 a0_1, .int .i64 a0_2, .int .i64 a0_3] 23 (0, 0)) (bkF1 BK116 NB116_120) hb); have n4_ := Aside0.mk (blk_below (g := gb120) (o := .cells #[.int .i64 t121, .int .i64 a0_1, .int .i64 a0_2, .int .i64 a0_3] 23 (0, 0)) (by (with_reducible repeat (first | refine blk_drewN ?_ _ | refine blk_drew ?_ | refine blk_alloc ?_ _)); refine blk_put (cs := #[.int .i64 a0_0, .int .i64 a0_1, .int .i64 a0_2, .int .i64 a0_3]) ?_ 0 _ rfl; (with_reducible repeat (first | refine blk_drewN ?_ _ | refine blk_drew ?_ | refine blk_alloc ?_ _)); exact BK120.out) hb); have n5_ := Aside0.mk (below_step (by repeat (first | (with_reducible first | exact HB.out | apply below_alloc | apply pw_below_drewN | apply below_drew1 | refine below_set ?_ GE101.out | refine below_set ?_ GE102.out | refine below_set ?_ GE111.out | refine below_set ?_ GE116.out | refine below_set ?_ GE120.out) | exact HB.out)) hb); clear BK101; clear BK102; clear BK111; clear BK116; clear BK120; clear HB; have BK101 := n0_; have BK102 := n1_; have BK111 := n2_; have BK116 := n3_; have BK120 := n4_; have HB := n5_; clear n0_ n1_ n2_ n3_ n4_ n5_; (try clear hb); (try clear hb2); (try clear hk); (try clear hi)))
                      repeat (go_quiet (first | (go_at_call 14; (with_reducible refine (pull_Free.calls kj71 t121 a0_1 a0_2 a0_3 t123 t124 t125 _ A109.out).mono ?_); rintro e w126 ⟨rfl, hb⟩; have n0_ := Aside0.mk (blk_below (g := gb101) (o := .cells #[.int .i64 a0_0, .int .i64 a0_1, .int .i64 a0_2, .int .i64 a0_3] 23 (0, 0)) (bkF1 BK101 NB101_120) hb); have n1_ := Aside0.mk (blk_below (g := gb102) (o := .cells #[.int .u8 a1_0, .int .u8 a1_1, .int .u8 a1_2] 62 (0, 0)) (bkF1 BK102 NB102_120) hb); have n2_ := Aside0.mk (blk_below (g := gb111) (o := .cells #[.int .i64 t108, .int .i64 t109] 25 (0, 0)) (bkF1 BK111 NB111_120) hb); have n3_ := Aside0.mk (blk_below (g := gb116) (o := .cells #[.int .i64 (wrap64 (1 + (Int.tmod (wrap64 (a2)) a0_0))), .int .i64 a0_1, .int .i64 a0_2, .int .i64 a0_3] 23 (0, 0)) (bkF1 BK116 NB116_120) hb); have n4_ := Aside0.mk (blk_below (g := gb120) (o := .cells #[.int .i64 t121, .int .i64 a0_1, .int .i64 a0_2, .int .i64 a0_3] 23 (0, 0)) (by (with_reducible repeat (first | refine blk_drewN ?_ _ | refine blk_drew ?_ | refine blk_alloc ?_ _)); refine blk_put (cs := #[.int .i64 a0_0, .int .i64 a0_1, .int .i64 a0_2, .int .i64 a0_3]) ?_ 0 _ rfl; (with_reducible repeat (first | refine blk_drewN ?_ _ | refine blk_drew ?_ | refine blk_alloc ?_ _)); exact BK120.out) hb); have n5_ := Aside0.mk (below_step (by repeat (first | (with_reducible first | exact HB.out | apply below_alloc | apply pw_below_drewN | apply below_drew1 | refine below_set ?_ GE101.out | refine below_set ?_ GE102.out | refine below_set ?_ GE111.out | refine below_set ?_ GE116.out | refine below_set ?_ GE120.out) | exact HB.out)) hb); clear BK101; clear BK102; clear BK111; clear BK116; clear BK120; clear HB; have BK101 := n0_; have BK102 := n1_; have BK111 := n2_; have BK116 := n3_; have BK120 := n4_; have HB := n5_; clear n0_ n1_ n2_ n3_ n4_ n5_; (try clear hb); (try clear hb2); (try clear hk); (try clear hi))); try go_wp2_with (first | (go_at_call 14; (with_reducible refine (pull_Free.calls kj71 t121 a0_1 a0_2 a0_3 t123 t124 t125 _ A109.out).mono ?_); rintro e w126 ⟨rfl, hb⟩; have n0_ := Aside0.mk (blk_below (g := gb101) (o := .cells #[.int .i64 a0_0, .int .i64 a0_1, .int .i64 a0_2, .int .i64 a0_3] 23 (0, 0)) (bkF1 BK101 NB101_120) hb); have n1_ := Aside0.mk (blk_below (g := gb102) (o := .cells #[.int .u8 a1_0, .int .u8 a1_1, .int .u8 a1_2] 62 (0, 0)) (bkF1 BK102 NB102_120) hb); have n2_ := Aside0.mk (blk_below (g := gb111) (o := .cells #[.int .i64 t108, .int .i64 t109] 25 (0, 0)) (bkF1 BK111 NB111_120) hb); have n3_ := Aside0.mk (blk_below (g := gb116) (o := .cells #[.int .i64 (wrap64 (1 + (Int.tmod (wrap64 (a2)) a0_0))), .int .i64 a0_1, .int .i64 a0_2, .int .i64 a0_3] 23 (0, 0)) (bkF1 BK116 NB116_120) hb); have n4_ := Aside0.mk (blk_below (g := gb120) (o := .cells #[.int .i64 t121, .int .i64 a0_1, .int .i64 a0_2, .int .i64 a0_3] 23 (0, 0)) (by (with_reducible repeat (first | refine blk_drewN ?_ _ | refine blk_drew ?_ | refine blk_alloc ?_ _)); refine blk_put (cs := #[.int .i64 a0_0, .int .i64 a0_1, .int .i64 a0_2, .int .i64 a0_3]) ?_ 0 _ rfl; (with_reducible repeat (first | refine blk_drewN ?_ _ | refine blk_drew ?_ | refine blk_alloc ?_ _)); exact BK120.out) hb); have n5_ := Aside0.mk (below_step (by repeat (first | (with_reducible first | exact HB.out | apply below_alloc | apply pw_below_drewN | apply below_drew1 | refine below_set ?_ GE101.out | refine below_set ?_ GE102.out | refine below_set ?_ GE111.out | refine below_set ?_ GE116.out | refine below_set ?_ GE120.out) | exact HB.out)) hb); clear BK101; clear BK102; clear BK111; clear BK116; clear BK120; clear HB; have BK101 := n0_; have BK102 := n1_; have BK111 := n2_; have BK116 := n3_; have BK120 := n4_; have HB := n5_; clear n0_ n1_ n2_ n3_ n4_ n5_; (try clear hb); (try clear hb2); (try clear hk); (try clear hi))))
                      go_meet
                      case rel => exact ⟨_, H', ⟨by have := HJ7.out; have := HJ32.out; have := HJ53.out; have := HJ71.out; first | omega | exact Nat.le_refl _⟩, ⟨bkU BK101⟩, ⟨bkU BK102⟩, ⟨bkU BK111⟩, ⟨bkU BK116⟩, ⟨bkU BK120⟩, ⟨by repeat (first | (with_reducible first | exact HB.out | apply below_alloc | apply pw_below_drewN | apply below_drew1 | refine below_set ?_ GE101.out | refine below_set ?_ GE102.out | refine below_set ?_ GE111.out | refine below_set ?_ GE116.out | refine below_set ?_ GE120.out) | exact HB.out)⟩⟩
                    rw [if_pos c113] at H
                    have c113b0 : decide (t124 < (ji89)) = true := decide_eq_true c113
                    clear c113
                    by_cases c114 : (ji89) > 0
                    · rw [if_pos c114] at H
                      have c114b0 : decide (0 < (ji89)) = true := decide_eq_true c114
                      clear c114
                      exact absurd (hT.symm.trans (Option.some.inj H).symm) (by decide)
                    rw [if_neg c114] at H
                    have c114b0 : decide (0 < (ji89)) = false := decide_eq_false c114
                    clear c114
                    have H' := Aside0.mk H
                    clear H
                    have hnb115 := NB120_101.out
                    have hnc115 := NB101_120.out
                    have hnb116 := NB120_102.out
                    have hnc116 := NB102_120.out
                    have hnb117 := NB120_111.out
                    have hnc117 := NB111_120.out
                    have hnb118 := NB120_116.out
                    have hnc118 := NB116_120.out
                    have hcz119_0 : w106.cell? ⟨gb120, 0, none⟩ = some (.int .i64 a0_0) := (blk_cell BK120.out 0).trans rfl
                    have hcz119_1 : w106.cell? ⟨gb120, 1, none⟩ = some (.int .i64 a0_1) := (blk_cell BK120.out 1).trans rfl
                    have hcz119_2 : w106.cell? ⟨gb120, 2, none⟩ = some (.int .i64 a0_2) := (blk_cell BK120.out 2).trans rfl
                    have hcz119_3 : w106.cell? ⟨gb120, 3, none⟩ = some (.int .i64 a0_3) := (blk_cell BK120.out 3).trans rfl
                    have hfz119_0 := blk_frozen BK120.out 0
                    have hfz119_1 := blk_frozen BK120.out 1
                    have hfz119_2 := blk_frozen BK120.out 2
                    have hfz119_3 := blk_frozen BK120.out 3
                    go_wp2_with (first | (go_at_call 14; (with_reducible refine (pull_Free.calls kj71 t121 a0_1 a0_2 a0_3 t123 t124 t125 _ A109.out).mono ?_); rintro e w120 ⟨rfl, hb⟩; have n0_ := Aside0.mk (blk_below (g := gb101) (o := .cells #[.int .i64 a0_0, .int .i64 a0_1, .int .i64 a0_2, .int .i64 a0_3] 23 (0, 0)) (bkF1 BK101 NB101_120) hb); have n1_ := Aside0.mk (blk_below (g := gb102) (o := .cells #[.int .u8 a1_0, .int .u8 a1_1, .int .u8 a1_2] 62 (0, 0)) (bkF1 BK102 NB102_120) hb); have n2_ := Aside0.mk (blk_below (g := gb111) (o := .cells #[.int .i64 t108, .int .i64 t109] 25 (0, 0)) (bkF1 BK111 NB111_120) hb); have n3_ := Aside0.mk (blk_below (g := gb116) (o := .cells #[.int .i64 (wrap64 (1 + (Int.tmod (wrap64 (a2)) a0_0))), .int .i64 a0_1, .int .i64 a0_2, .int .i64 a0_3] 23 (0, 0)) (bkF1 BK116 NB116_120) hb); have n4_ := Aside0.mk (blk_below (g := gb120) (o := .cells #[.int .i64 t121, .int .i64 a0_1, .int .i64 a0_2, .int .i64 a0_3] 23 (0, 0)) (by (with_reducible repeat (first | refine blk_drewN ?_ _ | refine blk_drew ?_ | refine blk_alloc ?_ _)); refine blk_put (cs := #[.int .i64 a0_0, .int .i64 a0_1, .int .i64 a0_2, .int .i64 a0_3]) ?_ 0 _ rfl; (with_reducible repeat (first | refine blk_drewN ?_ _ | refine blk_drew ?_ | refine blk_alloc ?_ _)); exact BK120.out) hb); have n5_ := Aside0.mk (below_step (by repeat (first | (with_reducible first | exact HB.out | apply below_alloc | apply pw_below_drewN | apply below_drew1 | refine below_set ?_ GE101.out | refine below_set ?_ GE102.out | refine below_set ?_ GE111.out | refine below_set ?_ GE116.out | refine below_set ?_ GE120.out) | exact HB.out)) hb); clear BK101; clear BK102; clear BK111; clear BK116; clear BK120; clear HB; have BK101 := n0_; have BK102 := n1_; have BK111 := n2_; have BK116 := n3_; have BK120 := n4_; have HB := n5_; clear n0_ n1_ n2_ n3_ n4_ n5_; (try clear hb); (try clear hb2); (try clear hk); (try clear hi)))
                    repeat (go_quiet (first | (go_at_call 14; (with_reducible refine (pull_Free.calls kj71 t121 a0_1 a0_2 a0_3 t123 t124 t125 _ A109.out).mono ?_); rintro e w120 ⟨rfl, hb⟩; have n0_ := Aside0.mk (blk_below (g := gb101) (o := .cells #[.int .i64 a0_0, .int .i64 a0_1, .int .i64 a0_2, .int .i64 a0_3] 23 (0, 0)) (bkF1 BK101 NB101_120) hb); have n1_ := Aside0.mk (blk_below (g := gb102) (o := .cells #[.int .u8 a1_0, .int .u8 a1_1, .int .u8 a1_2] 62 (0, 0)) (bkF1 BK102 NB102_120) hb); have n2_ := Aside0.mk (blk_below (g := gb111) (o := .cells #[.int .i64 t108, .int .i64 t109] 25 (0, 0)) (bkF1 BK111 NB111_120) hb); have n3_ := Aside0.mk (blk_below (g := gb116) (o := .cells #[.int .i64 (wrap64 (1 + (Int.tmod (wrap64 (a2)) a0_0))), .int .i64 a0_1, .int .i64 a0_2, .int .i64 a0_3] 23 (0, 0)) (bkF1 BK116 NB116_120) hb); have n4_ := Aside0.mk (blk_below (g := gb120) (o := .cells #[.int .i64 t121, .int .i64 a0_1, .int .i64 a0_2, .int .i64 a0_3] 23 (0, 0)) (by (with_reducible repeat (first | refine blk_drewN ?_ _ | refine blk_drew ?_ | refine blk_alloc ?_ _)); refine blk_put (cs := #[.int .i64 a0_0, .int .i64 a0_1, .int .i64 a0_2, .int .i64 a0_3]) ?_ 0 _ rfl; (with_reducible repeat (first | refine blk_drewN ?_ _ | refine blk_drew ?_ | refine blk_alloc ?_ _)); exact BK120.out) hb); have n5_ := Aside0.mk (below_step (by repeat (first | (with_reducible first | exact HB.out | apply below_alloc | apply pw_below_drewN | apply below_drew1 | refine below_set ?_ GE101.out | refine below_set ?_ GE102.out | refine below_set ?_ GE111.out | refine below_set ?_ GE116.out | refine below_set ?_ GE120.out) | exact HB.out)) hb); clear BK101; clear BK102; clear BK111; clear BK116; clear BK120; clear HB; have BK101 := n0_; have BK102 := n1_; have BK111 := n2_; have BK116 := n3_; have BK120 := n4_; have HB := n5_; clear n0_ n1_ n2_ n3_ n4_ n5_; (try clear hb); (try clear hb2); (try clear hk); (try clear hi))); try go_wp2_with (first | (go_at_call 14; (with_reducible refine (pull_Free.calls kj71 t121 a0_1 a0_2 a0_3 t123 t124 t125 _ A109.out).mono ?_); rintro e w120 ⟨rfl, hb⟩; have n0_ := Aside0.mk (blk_below (g := gb101) (o := .cells #[.int .i64 a0_0, .int .i64 a0_1, .int .i64 a0_2, .int .i64 a0_3] 23 (0, 0)) (bkF1 BK101 NB101_120) hb); have n1_ := Aside0.mk (blk_below (g := gb102) (o := .cells #[.int .u8 a1_0, .int .u8 a1_1, .int .u8 a1_2] 62 (0, 0)) (bkF1 BK102 NB102_120) hb); have n2_ := Aside0.mk (blk_below (g := gb111) (o := .cells #[.int .i64 t108, .int .i64 t109] 25 (0, 0)) (bkF1 BK111 NB111_120) hb); have n3_ := Aside0.mk (blk_below (g := gb116) (o := .cells #[.int .i64 (wrap64 (1 + (Int.tmod (wrap64 (a2)) a0_0))), .int .i64 a0_1, .int .i64 a0_2, .int .i64 a0_3] 23 (0, 0)) (bkF1 BK116 NB116_120) hb); have n4_ := Aside0.mk (blk_below (g := gb120) (o := .cells #[.int .i64 t121, .int .i64 a0_1, .int .i64 a0_2, .int .i64 a0_3] 23 (0, 0)) (by (with_reducible repeat (first | refine blk_drewN ?_ _ | refine blk_drew ?_ | refine blk_alloc ?_ _)); refine blk_put (cs := #[.int .i64 a0_0, .int .i64 a0_1, .int .i64 a0_2, .int .i64 a0_3]) ?_ 0 _ rfl; (with_reducible repeat (first | refine blk_drewN ?_ _ | refine blk_drew ?_ | refine blk_alloc ?_ _)); exact BK120.out) hb); have n5_ := Aside0.mk (below_step (by repeat (first | (with_reducible first | exact HB.out | apply below_alloc | apply pw_below_drewN | apply below_drew1 | refine below_set ?_ GE101.out | refine below_set ?_ GE102.out | refine below_set ?_ GE111.out | refine below_set ?_ GE116.out | refine below_set ?_ GE120.out) | exact HB.out)) hb); clear BK101; clear BK102; clear BK111; clear BK116; clear BK120; clear HB; have BK101 := n0_; have BK102 := n1_; have BK111 := n2_; have BK116 := n3_; have BK120 := n4_; have HB := n5_; clear n0_ n1_ n2_ n3_ n4_ n5_; (try clear hb); (try clear hb2); (try clear hk); (try clear hi))))
                    go_meet
                    case rel => exact ⟨_, H', ⟨by have := HJ7.out; have := HJ32.out; have := HJ53.out; have := HJ71.out; first | omega | exact Nat.le_refl _⟩, ⟨bkU BK101⟩, ⟨bkU BK102⟩, ⟨bkU BK111⟩, ⟨bkU BK116⟩, ⟨bkU BK120⟩, ⟨by repeat (first | (with_reducible first | exact HB.out | apply below_alloc | apply pw_below_drewN | apply below_drew1 | refine below_set ?_ GE101.out | refine below_set ?_ GE102.out | refine below_set ?_ GE111.out | refine below_set ?_ GE116.out | refine below_set ?_ GE120.out) | exact HB.out)⟩⟩
                  case rest =>
                    as_aux_lemma =>
                    clear HC91
                    try clear c1
                    try clear c2
                    try clear p2
                    try clear c3
                    try clear c4
                    try clear c5
                    try clear c6
                    try clear p6
                    try clear c7
                    try clear c8
                    try clear c9
                    try clear c10
                    try clear c11
                    try clear c12
                    try clear c13
                    try clear c14
                    try clear c20
                    try clear c21
                    try clear c23
                    try clear c23b0
                    try clear c23b1
                    try clear c24
                    try clear c24b0
                    try clear c24b1
                    try clear c25
                    try clear c25b0
                    try clear c26
                    try clear c26b0
                    try clear c27
                    try clear c27b0
                    try clear c28
                    try clear c28b0
                    try clear c29
                    try clear c30
                    try clear c32
                    try clear c34
                    try clear c34b0
                    try clear c35
                    try clear c35b0
                    try clear c36
                    try clear c37
                    try clear c39
                    try clear c41
                    try clear c42
                    try clear c44
                    try clear c46
                    try clear c46b0
                    try clear c47
                    try clear c48
                    try clear c50
                    try clear c51
                    try clear c53
                    try clear c55
                    try clear c55b0
                    try clear c57
                    try clear c57b0
                    try clear c57b1
                    try clear c58
                    try clear c58b0
                    try clear c59
                    try clear c60
                    try clear c64
                    try clear p64
                    try clear c65
                    try clear c66
                    try clear c68
                    try clear c70
                    try clear c70b0
                    try clear c70b1
                    try clear c73
                    try clear c74
                    try clear c77
                    try clear c78
                    try clear c79
                    try clear c83
                    try clear c83b0
                    try clear c83b1
                    try clear c84
                    try clear c84b0
                    try clear c85
                    try clear c92
                    try clear c93
                    try clear c94
                    try clear c96
                    try clear c97
                    try clear c100
                    try clear c101
                    try clear c102
                    try clear c103
                    try clear c108
                    try clear c108b0
                    try clear c108b1
                    try clear c110
                    try clear c110b0
                    try clear c110b1
                    try clear c111
                    try clear c111b0
                    try clear c112
                    try clear c112b0
                    try clear c113
                    try clear c113b0
                    try clear c114
                    try clear c114b0
                    try clear c115
                    try clear c116
                    try clear c117
                    try clear c118
                    try clear c121
                    try clear c122
                    try clear c123
                    try clear c124
                    try clear c127
                    try clear c127b0
                    try clear c128
                    try clear c128b0
                    try clear c129
                    try clear c130
                    try clear c131
                    try clear c132
                    try clear c135
                    try clear c136
                    try clear c137
                    try clear c138
                    try clear c141
                    try clear c141b0
                    try clear c141b1
                    try clear hcz104_0
                    try clear hcz104_1
                    try clear hcz104_2
                    try clear hcz104_3
                    try clear hcz105_0
                    try clear hcz105_1
                    try clear hcz105_2
                    try clear hcz105_3
                    try clear hcz107_0
                    try clear hcz107_1
                    try clear hcz107_2
                    try clear hcz107_3
                    try clear hcz119_0
                    try clear hcz119_1
                    try clear hcz119_2
                    try clear hcz119_3
                    try clear hcz125_0
                    try clear hcz125_1
                    try clear hcz125_2
                    try clear hcz125_3
                    try clear hcz12_0
                    try clear hcz12_1
                    try clear hcz12_2
                    try clear hcz12_3
                    try clear hcz133_0
                    try clear hcz133_1
                    try clear hcz133_2
                    try clear hcz133_3
                    try clear hcz139_0
                    try clear hcz139_1
                    try clear hcz139_2
                    try clear hcz139_3
                    try clear hcz14_0
                    try clear hcz14_1
                    try clear hcz14_2
                    try clear hcz14_3
                    try clear hcz16_0
                    try clear hcz16_1
                    try clear hcz16_2
                    try clear hcz17_0
                    try clear hcz17_1
                    try clear hcz17_2
                    try clear hcz17_3
                    try clear hcz22_0
                    try clear hcz22_1
                    try clear hcz31_0
                    try clear hcz31_1
                    try clear hcz38_0
                    try clear hcz38_1
                    try clear hcz40_0
                    try clear hcz40_1
                    try clear hcz40_2
                    try clear hcz40_3
                    try clear hcz43_0
                    try clear hcz43_1
                    try clear hcz45_0
                    try clear hcz45_1
                    try clear hcz45_2
                    try clear hcz45_3
                    try clear hcz49_0
                    try clear hcz49_1
                    try clear hcz52_0
                    try clear hcz52_1
                    try clear hcz61_0
                    try clear hcz61_1
                    try clear hcz61_2
                    try clear hcz61_3
                    try clear hcz67_0
                    try clear hcz67_1
                    try clear hcz69_0
                    try clear hcz69_1
                    try clear hcz75_0
                    try clear hcz75_1
                    try clear hcz75_2
                    try clear hcz75_3
                    try clear hcz80_0
                    try clear hcz80_1
                    try clear hcz80_2
                    try clear hcz80_3
                    try clear hcz81_0
                    try clear hcz81_1
                    try clear hcz81_2
                    try clear hcz81_3
                    try clear hcz95_0
                    try clear hcz95_1
                    try clear hcz95_2
                    try clear hcz98_0
                    try clear hcz98_1
                    try clear hcz98_2
                    try clear hcz98_3
                    try clear hfz104_0
                    try clear hfz104_1
                    try clear hfz104_2
                    try clear hfz104_3
                    try clear hfz105_0
                    try clear hfz105_1
                    try clear hfz105_2
                    try clear hfz105_3
                    try clear hfz107_0
                    try clear hfz107_1
                    try clear hfz107_2
                    try clear hfz107_3
                    try clear hfz119_0
                    try clear hfz119_1
                    try clear hfz119_2
                    try clear hfz119_3
                    try clear hfz125_0
                    try clear hfz125_1
                    try clear hfz125_2
                    try clear hfz125_3
                    try clear hfz12_0
                    try clear hfz12_1
                    try clear hfz12_2
                    try clear hfz12_3
                    try clear hfz133_0
                    try clear hfz133_1
                    try clear hfz133_2
                    try clear hfz133_3
                    try clear hfz139_0
                    try clear hfz139_1
                    try clear hfz139_2
                    try clear hfz139_3
                    try clear hfz14_0
                    try clear hfz14_1
                    try clear hfz14_2
                    try clear hfz14_3
                    try clear hfz16_0
                    try clear hfz16_1
                    try clear hfz16_2
                    try clear hfz17_0
                    try clear hfz17_1
                    try clear hfz17_2
                    try clear hfz17_3
                    try clear hfz22_0
                    try clear hfz22_1
                    try clear hfz31_0
                    try clear hfz31_1
                    try clear hfz38_0
                    try clear hfz38_1
                    try clear hfz40_0
                    try clear hfz40_1
                    try clear hfz40_2
                    try clear hfz40_3
                    try clear hfz43_0
                    try clear hfz43_1
                    try clear hfz45_0
                    try clear hfz45_1
                    try clear hfz45_2
                    try clear hfz45_3
                    try clear hfz49_0
                    try clear hfz49_1
                    try clear hfz52_0
                    try clear hfz52_1
                    try clear hfz61_0
                    try clear hfz61_1
                    try clear hfz61_2
                    try clear hfz61_3
                    try clear hfz67_0
                    try clear hfz67_1
                    try clear hfz69_0
                    try clear hfz69_1
                    try clear hfz75_0
                    try clear hfz75_1
                    try clear hfz75_2
                    try clear hfz75_3
                    try clear hfz80_0
                    try clear hfz80_1
                    try clear hfz80_2
                    try clear hfz80_3
                    try clear hfz81_0
                    try clear hfz81_1
                    try clear hfz81_2
                    try clear hfz81_3
                    try clear hfz95_0
                    try clear hfz95_1
                    try clear hfz95_2
                    try clear hfz98_0
                    try clear hfz98_1
                    try clear hfz98_2
                    try clear hfz98_3
                    try clear p2
                    try clear p6
                    try clear p64
                    obtain ⟨kq, HA, HJ90, BK101, BK102, BK111, BK116, BK120, HB⟩ := hcut
                    cases kq with
                    | zero => exact absurd HA.out (by simp [dropperlaw04_PullFree.j4])
                    | succ kj90 =>
                      have H := HA.out
                      clear HA
                      simp only [dropperlaw04_PullFree.j4] at H
                      replace H := Option.bind_eq_some_iff.mp H
                      obtain ⟨⟨t127, t128⟩, A1420, H⟩ := H
                      replace H : (if t128 = 0 then ((pull_Free.f kj90 a0_0 a0_1 t127 a0_3).bind fun bt129 => (if bt129.2.2 = 0 then (if ji88 ≥ bt129.1 then (if ji89 ≤ bt129.2.1 then ((dropperlaw04_Awake.f kj90).bind fun t132 => (some t132)) else (if ji89 ≤ 0 then ((dropperlaw04_Awake.f kj90).bind fun t133 => (some t133)) else (some false))) else (if ji88 ≥ 0 then (if ji89 ≤ bt129.2.1 then ((dropperlaw04_Awake.f kj90).bind fun t134 => (some t134)) else (if ji89 ≤ 0 then ((dropperlaw04_Awake.f kj90).bind fun t135 => (some t135)) else (some false))) else (some false))) else (some false))) else (if t128 = 5 then ((dropperlaw04_Awake.f kj90).bind fun t136 => (some t136)) else (some false))) = some r := H
                      have A142 := Aside0.mk A1420
                      clear A1420
                      by_cases c143 : t128 = 0
                      rotate_left
                      · rw [if_neg c143] at H
                        have c143b0 : (t128 == 0) = false := beq_eq_false_iff_ne.mpr c143
                        have c143b1 : (t128 != 0) = true := bne_iff_ne.mpr c143
                        by_cases c224 : t128 = 5
                        rotate_left
                        · rw [if_neg c224] at H
                          have c224b0 : (t128 == 5) = false := beq_eq_false_iff_ne.mpr c224
                          have c224b1 : (t128 != 5) = true := bne_iff_ne.mpr c224
                          exact absurd (hT.symm.trans (Option.some.inj H).symm) (by decide)
                        rw [if_pos c224] at H
                        have c224b0 : (t128 == 5) = true := beq_iff_eq.mpr c224
                        have c224b1 : (t128 != 5) = false := bne_eq_false_iff_eq.mpr c224
                        clear c224
                        replace H := Option.bind_eq_some_iff.mp H
                        obtain ⟨t136, A2250, H⟩ := H
                        replace H : (some t136) = some r := H
                        have A225 := Aside0.mk A2250
                        clear A2250
                        clear hT
                        obtain rfl := Option.some.inj H
                        have hnb226 := NB101_102.out
                        have hnc226 := NB102_101.out
                        have hnb227 := NB101_111.out
                        have hnc227 := NB111_101.out
                        have hnb228 := NB101_116.out
                        have hnc228 := NB116_101.out
                        have hnb229 := NB101_120.out
                        have hnc229 := NB120_101.out
                        have hcz230_0 : wc.cell? ⟨gb101, 0, none⟩ = some (.int .i64 a0_0) := (blk_cell BK101.out 0).trans rfl
                        have hcz230_1 : wc.cell? ⟨gb101, 1, none⟩ = some (.int .i64 a0_1) := (blk_cell BK101.out 1).trans rfl
                        have hcz230_2 : wc.cell? ⟨gb101, 2, none⟩ = some (.int .i64 a0_2) := (blk_cell BK101.out 2).trans rfl
                        have hcz230_3 : wc.cell? ⟨gb101, 3, none⟩ = some (.int .i64 a0_3) := (blk_cell BK101.out 3).trans rfl
                        have hfz230_0 := blk_frozen BK101.out 0
                        have hfz230_1 := blk_frozen BK101.out 1
                        have hfz230_2 := blk_frozen BK101.out 2
                        have hfz230_3 := blk_frozen BK101.out 3
                        go_wp2_with (first | ((with_reducible refine gate_dst (N := 24) rfl ?_); refine box_event ?hg (N := 24) ?hd (cs := #[.int .i64 0, .int .i64 0, .int .i64 0, .int .i64 0]) (t := 23) ?hr ?_; (case hd => rfl); (case hg => rfl); (case hr => first | (go_simp; done) | (go_simp; rfl)); intro gb126 hg w231 hbox hb; have n0_ := Aside0.mk (bkB BK101 hb); have n1_ := Aside0.mk (bkB BK102 hb); have n2_ := Aside0.mk (bkB BK111 hb); have n3_ := Aside0.mk (bkB BK116 hb); have n4_ := Aside0.mk (bkB BK120 hb); have n5_ := Aside0.mk (below_step (by repeat (first | (with_reducible first | exact HB.out | apply below_alloc | apply pw_below_drewN | apply below_drew1 | refine below_set ?_ GE101.out | refine below_set ?_ GE102.out | refine below_set ?_ GE111.out | refine below_set ?_ GE116.out | refine below_set ?_ GE120.out) | exact HB.out)) hb); have n6_ := Aside0.mk (hbox); have n7_ := Aside0.mk ((by rw [hg]; exact (below_size (by repeat (first | (with_reducible first | exact HB.out | apply below_alloc | apply pw_below_drewN | apply below_drew1 | refine below_set ?_ GE101.out | refine below_set ?_ GE102.out | refine below_set ?_ GE111.out | refine below_set ?_ GE116.out | refine below_set ?_ GE120.out) | exact HB.out))) : w.heap.size ≤ gb126)); have n8_ := Aside0.mk ((by rw [hg]; exact (below_size (by repeat (first | (with_reducible first | exact HB.out | apply below_alloc | apply pw_below_drewN | apply below_drew1 | refine below_set ?_ GE101.out | refine below_set ?_ GE102.out | refine below_set ?_ GE111.out | refine below_set ?_ GE116.out | refine below_set ?_ GE120.out) | exact HB.out))) : w.heap.size ≤ gb126)); have n9_ := Aside0.mk ((bkL BK101 hg : gb101 ≠ gb126)); have n10_ := Aside0.mk ((bkG BK101 hg : gb126 ≠ gb101)); have n11_ := Aside0.mk ((bkL BK102 hg : gb102 ≠ gb126)); have n12_ := Aside0.mk ((bkG BK102 hg : gb126 ≠ gb102)); have n13_ := Aside0.mk ((bkL BK111 hg : gb111 ≠ gb126)); have n14_ := Aside0.mk ((bkG BK111 hg : gb126 ≠ gb111)); have n15_ := Aside0.mk ((bkL BK116 hg : gb116 ≠ gb126)); have n16_ := Aside0.mk ((bkG BK116 hg : gb126 ≠ gb116)); have n17_ := Aside0.mk ((bkL BK120 hg : gb120 ≠ gb126)); have n18_ := Aside0.mk ((bkG BK120 hg : gb126 ≠ gb120)); clear BK101; clear BK102; clear BK111; clear BK116; clear BK120; clear HB; have BK101 := n0_; have BK102 := n1_; have BK111 := n2_; have BK116 := n3_; have BK120 := n4_; have HB := n5_; have BK126 := n6_; have GW126 := n7_; have GE126 := n8_; have NB101_126 := n9_; have NB126_101 := n10_; have NB102_126 := n11_; have NB126_102 := n12_; have NB111_126 := n13_; have NB126_111 := n14_; have NB116_126 := n15_; have NB126_116 := n16_; have NB120_126 := n17_; have NB126_120 := n18_; clear n0_ n1_ n2_ n3_ n4_ n5_ n6_ n7_ n8_ n9_ n10_ n11_ n12_ n13_ n14_ n15_ n16_ n17_ n18_; clear hb hbox hg; have hnb232 := NB126_101.out; have hnc232 := NB101_126.out; have hnb233 := NB126_102.out; have hnc233 := NB102_126.out; have hnb234 := NB126_111.out; have hnc234 := NB111_126.out; have hnb235 := NB126_116.out; have hnc235 := NB116_126.out; have hnb236 := NB126_120.out; have hnc236 := NB120_126.out; have hcz237_0 : w231.cell? ⟨gb126, 0, none⟩ = some (.int .i64 0) := (blk_cell BK126.out 0).trans rfl; have hcz237_1 : w231.cell? ⟨gb126, 1, none⟩ = some (.int .i64 0) := (blk_cell BK126.out 1).trans rfl; have hcz237_2 : w231.cell? ⟨gb126, 2, none⟩ = some (.int .i64 0) := (blk_cell BK126.out 2).trans rfl; have hcz237_3 : w231.cell? ⟨gb126, 3, none⟩ = some (.int .i64 0) := (blk_cell BK126.out 3).trans rfl; have hfz237_0 := blk_frozen BK126.out 0; have hfz237_1 := blk_frozen BK126.out 1; have hfz237_2 := blk_frozen BK126.out 2; have hfz237_3 := blk_frozen BK126.out 3; have hcz238_0 : w231.cell? ⟨gb101, 0, none⟩ = some (.int .i64 a0_0) := (blk_cell BK101.out 0).trans rfl; have hcz238_1 : w231.cell? ⟨gb101, 1, none⟩ = some (.int .i64 a0_1) := (blk_cell BK101.out 1).trans rfl; have hcz238_2 : w231.cell? ⟨gb101, 2, none⟩ = some (.int .i64 a0_2) := (blk_cell BK101.out 2).trans rfl; have hcz238_3 : w231.cell? ⟨gb101, 3, none⟩ = some (.int .i64 a0_3) := (blk_cell BK101.out 3).trans rfl; have hfz238_0 := blk_frozen BK101.out 0; have hfz238_1 := blk_frozen BK101.out 1; have hfz238_2 := blk_frozen BK101.out 2; have hfz238_3 := blk_frozen BK101.out 3) | (go_at_call 21; (with_reducible refine (pull_Base.calls a0_0 a0_1 a0_2 a0_3 ji88 ji89 t127 t128 _ A142.out).mono ?_); rintro e w239 ⟨rfl, hb⟩; have n0_ := Aside0.mk (blk_below (g := gb101) (o := .cells #[.int .i64 a0_0, .int .i64 a0_1, .int .i64 a0_2, .int .i64 a0_3] 23 (0, 0)) (by (with_reducible repeat (first | refine blk_drewN ?_ _ | refine blk_drew ?_ | refine blk_alloc ?_ _)); refine blk_far ?_ NB101_126.out _; (with_reducible repeat (first | refine blk_drewN ?_ _ | refine blk_drew ?_ | refine blk_alloc ?_ _)); refine blk_far ?_ NB101_126.out _; (with_reducible repeat (first | refine blk_drewN ?_ _ | refine blk_drew ?_ | refine blk_alloc ?_ _)); refine blk_far ?_ NB101_126.out _; (with_reducible repeat (first | refine blk_drewN ?_ _ | refine blk_drew ?_ | refine blk_alloc ?_ _)); refine blk_far ?_ NB101_126.out _; (with_reducible repeat (first | refine blk_drewN ?_ _ | refine blk_drew ?_ | refine blk_alloc ?_ _)); exact BK101.out) hb); have n1_ := Aside0.mk (blk_below (g := gb102) (o := .cells #[.int .u8 a1_0, .int .u8 a1_1, .int .u8 a1_2] 62 (0, 0)) (by (with_reducible repeat (first | refine blk_drewN ?_ _ | refine blk_drew ?_ | refine blk_alloc ?_ _)); refine blk_far ?_ NB102_126.out _; (with_reducible repeat (first | refine blk_drewN ?_ _ | refine blk_drew ?_ | refine blk_alloc ?_ _)); refine blk_far ?_ NB102_126.out _; (with_reducible repeat (first | refine blk_drewN ?_ _ | refine blk_drew ?_ | refine blk_alloc ?_ _)); refine blk_far ?_ NB102_126.out _; (with_reducible repeat (first | refine blk_drewN ?_ _ | refine blk_drew ?_ | refine blk_alloc ?_ _)); refine blk_far ?_ NB102_126.out _; (with_reducible repeat (first | refine blk_drewN ?_ _ | refine blk_drew ?_ | refine blk_alloc ?_ _)); exact BK102.out) hb); have n2_ := Aside0.mk (blk_below (g := gb111) (o := .cells #[.int .i64 t108, .int .i64 t109] 25 (0, 0)) (by (with_reducible repeat (first | refine blk_drewN ?_ _ | refine blk_drew ?_ | refine blk_alloc ?_ _)); refine blk_far ?_ NB111_126.out _; (with_reducible repeat (first | refine blk_drewN ?_ _ | refine blk_drew ?_ | refine blk_alloc ?_ _)); refine blk_far ?_ NB111_126.out _; (with_reducible repeat (first | refine blk_drewN ?_ _ | refine blk_drew ?_ | refine blk_alloc ?_ _)); refine blk_far ?_ NB111_126.out _; (with_reducible repeat (first | refine blk_drewN ?_ _ | refine blk_drew ?_ | refine blk_alloc ?_ _)); refine blk_far ?_ NB111_126.out _; (with_reducible repeat (first | refine blk_drewN ?_ _ | refine blk_drew ?_ | refine blk_alloc ?_ _)); exact BK111.out) hb); have n3_ := Aside0.mk (blk_below (g := gb116) (o := .cells #[.int .i64 (wrap64 (1 + (Int.tmod (wrap64 (a2)) a0_0))), .int .i64 a0_1, .int .i64 a0_2, .int .i64 a0_3] 23 (0, 0)) (by (with_reducible repeat (first | refine blk_drewN ?_ _ | refine blk_drew ?_ | refine blk_alloc ?_ _)); refine blk_far ?_ NB116_126.out _; (with_reducible repeat (first | refine blk_drewN ?_ _ | refine blk_drew ?_ | refine blk_alloc ?_ _)); refine blk_far ?_ NB116_126.out _; (with_reducible repeat (first | refine blk_drewN ?_ _ | refine blk_drew ?_ | refine blk_alloc ?_ _)); refine blk_far ?_ NB116_126.out _; (with_reducible repeat (first | refine blk_drewN ?_ _ | refine blk_drew ?_ | refine blk_alloc ?_ _)); refine blk_far ?_ NB116_126.out _; (with_reducible repeat (first | refine blk_drewN ?_ _ | refine blk_drew ?_ | refine blk_alloc ?_ _)); exact BK116.out) hb); have n4_ := Aside0.mk (blk_below (g := gb120) (o := .cells #[.int .i64 t121, .int .i64 a0_1, .int .i64 a0_2, .int .i64 a0_3] 23 (0, 0)) (by (with_reducible repeat (first | refine blk_drewN ?_ _ | refine blk_drew ?_ | refine blk_alloc ?_ _)); refine blk_far ?_ NB120_126.out _; (with_reducible repeat (first | refine blk_drewN ?_ _ | refine blk_drew ?_ | refine blk_alloc ?_ _)); refine blk_far ?_ NB120_126.out _; (with_reducible repeat (first | refine blk_drewN ?_ _ | refine blk_drew ?_ | refine blk_alloc ?_ _)); refine blk_far ?_ NB120_126.out _; (with_reducible repeat (first | refine blk_drewN ?_ _ | refine blk_drew ?_ | refine blk_alloc ?_ _)); refine blk_far ?_ NB120_126.out _; (with_reducible repeat (first | refine blk_drewN ?_ _ | refine blk_drew ?_ | refine blk_alloc ?_ _)); exact BK120.out) hb); have n5_ := Aside0.mk (blk_below (g := gb126) (o := .cells #[.int .i64 a0_0, .int .i64 a0_1, .int .i64 a0_2, .int .i64 a0_3] 23 (0, 0)) (by (with_reducible repeat (first | refine blk_drewN ?_ _ | refine blk_drew ?_ | refine blk_alloc ?_ _)); refine blk_put (cs := #[.int .i64 a0_0, .int .i64 a0_1, .int .i64 a0_2, .int .i64 0]) ?_ 3 _ rfl; (with_reducible repeat (first | refine blk_drewN ?_ _ | refine blk_drew ?_ | refine blk_alloc ?_ _)); refine blk_put (cs := #[.int .i64 a0_0, .int .i64 a0_1, .int .i64 0, .int .i64 0]) ?_ 2 _ rfl; (with_reducible repeat (first | refine blk_drewN ?_ _ | refine blk_drew ?_ | refine blk_alloc ?_ _)); refine blk_put (cs := #[.int .i64 a0_0, .int .i64 0, .int .i64 0, .int .i64 0]) ?_ 1 _ rfl; (with_reducible repeat (first | refine blk_drewN ?_ _ | refine blk_drew ?_ | refine blk_alloc ?_ _)); refine blk_put (cs := #[.int .i64 0, .int .i64 0, .int .i64 0, .int .i64 0]) ?_ 0 _ rfl; (with_reducible repeat (first | refine blk_drewN ?_ _ | refine blk_drew ?_ | refine blk_alloc ?_ _)); exact BK126.out) hb); have n6_ := Aside0.mk (below_step (by repeat (first | (with_reducible first | exact HB.out | apply below_alloc | apply pw_below_drewN | apply below_drew1 | refine below_set ?_ GE101.out | refine below_set ?_ GE102.out | refine below_set ?_ GE111.out | refine below_set ?_ GE116.out | refine below_set ?_ GE120.out | refine below_set ?_ GE126.out) | exact HB.out)) hb); clear BK101; clear BK102; clear BK111; clear BK116; clear BK120; clear BK126; clear HB; have BK101 := n0_; have BK102 := n1_; have BK111 := n2_; have BK116 := n3_; have BK120 := n4_; have BK126 := n5_; have HB := n6_; clear n0_ n1_ n2_ n3_ n4_ n5_ n6_; (try clear hb); (try clear hb2); (try clear hk); (try clear hi); have hcz240_0 : w239.cell? ⟨gb126, 0, none⟩ = some (.int .i64 a0_0) := (blk_cell BK126.out 0).trans rfl; have hcz240_1 : w239.cell? ⟨gb126, 1, none⟩ = some (.int .i64 a0_1) := (blk_cell BK126.out 1).trans rfl; have hcz240_2 : w239.cell? ⟨gb126, 2, none⟩ = some (.int .i64 a0_2) := (blk_cell BK126.out 2).trans rfl; have hcz240_3 : w239.cell? ⟨gb126, 3, none⟩ = some (.int .i64 a0_3) := (blk_cell BK126.out 3).trans rfl; have hfz240_0 := blk_frozen BK126.out 0; have hfz240_1 := blk_frozen BK126.out 1; have hfz240_2 := blk_frozen BK126.out 2; have hfz240_3 := blk_frozen BK126.out 3) | (go_at_call 18; (with_reducible refine (dropperlaw04_Awake.calls kj90  t136 _ A225.out).mono ?_); rintro e w241 ⟨rfl, hb⟩; have n0_ := Aside0.mk (blk_below (g := gb101) (o := .cells #[.int .i64 a0_0, .int .i64 a0_1, .int .i64 a0_2, .int .i64 a0_3] 23 (0, 0)) (bkF1 BK101 NB101_126) hb); have n1_ := Aside0.mk (blk_below (g := gb102) (o := .cells #[.int .u8 a1_0, .int .u8 a1_1, .int .u8 a1_2] 62 (0, 0)) (bkF1 BK102 NB102_126) hb); have n2_ := Aside0.mk (blk_below (g := gb111) (o := .cells #[.int .i64 t108, .int .i64 t109] 25 (0, 0)) (bkF1 BK111 NB111_126) hb); have n3_ := Aside0.mk (blk_below (g := gb116) (o := .cells #[.int .i64 (wrap64 (1 + (Int.tmod (wrap64 (a2)) a0_0))), .int .i64 a0_1, .int .i64 a0_2, .int .i64 a0_3] 23 (0, 0)) (bkF1 BK116 NB116_126) hb); have n4_ := Aside0.mk (blk_below (g := gb120) (o := .cells #[.int .i64 t121, .int .i64 a0_1, .int .i64 a0_2, .int .i64 a0_3] 23 (0, 0)) (bkF1 BK120 NB120_126) hb); have n5_ := Aside0.mk (blk_below (g := gb126) (o := .cells #[.int .i64 a0_0, .int .i64 a0_1, .int .i64 t127, .int .i64 a0_3] 23 (0, 0)) (by (with_reducible repeat (first | refine blk_drewN ?_ _ | refine blk_drew ?_ | refine blk_alloc ?_ _)); refine blk_put (cs := #[.int .i64 a0_0, .int .i64 a0_1, .int .i64 a0_2, .int .i64 a0_3]) ?_ 2 _ rfl; (with_reducible repeat (first | refine blk_drewN ?_ _ | refine blk_drew ?_ | refine blk_alloc ?_ _)); exact BK126.out) hb); have n6_ := Aside0.mk (below_step (by repeat (first | (with_reducible first | exact HB.out | apply below_alloc | apply pw_below_drewN | apply below_drew1 | refine below_set ?_ GE101.out | refine below_set ?_ GE102.out | refine below_set ?_ GE111.out | refine below_set ?_ GE116.out | refine below_set ?_ GE120.out | refine below_set ?_ GE126.out) | exact HB.out)) hb); clear BK101; clear BK102; clear BK111; clear BK116; clear BK120; clear BK126; clear HB; have BK101 := n0_; have BK102 := n1_; have BK111 := n2_; have BK116 := n3_; have BK120 := n4_; have BK126 := n5_; have HB := n6_; clear n0_ n1_ n2_ n3_ n4_ n5_ n6_; (try clear hb); (try clear hb2); (try clear hk); (try clear hi)))
                        repeat (go_quiet (fail); try go_wp2_with (fail))
                        go_ret
                        exact ⟨by first | rfl | (simp [errW_none, errW_some] <;> rfl) | (simp only [← hji86, ← hji87, ← hji88, ← hji89]; first | rfl | (simp [errW_none, errW_some] <;> rfl)) | (simp [*, errW_none, errW_some] <;> rfl), by repeat (first | (with_reducible first | exact HB.out | apply below_alloc | apply pw_below_drewN | apply below_drew1 | refine below_set ?_ GE101.out | refine below_set ?_ GE102.out | refine below_set ?_ GE111.out | refine below_set ?_ GE116.out | refine below_set ?_ GE120.out | refine below_set ?_ GE126.out) | exact HB.out)⟩
                      rw [if_pos c143] at H
                      have c143b0 : (t128 == 0) = true := beq_iff_eq.mpr c143
                      have c143b1 : (t128 != 0) = false := bne_eq_false_iff_eq.mpr c143
                      clear c143
                      replace H := Option.bind_eq_some_iff.mp H
                      obtain ⟨⟨t129, t130, t131⟩, A1440, H⟩ := H
                      replace H : (if t131 = 0 then (if ji88 ≥ t129 then (if ji89 ≤ t130 then ((dropperlaw04_Awake.f kj90).bind fun t132 => (some t132)) else (if ji89 ≤ 0 then ((dropperlaw04_Awake.f kj90).bind fun t133 => (some t133)) else (some false))) else (if ji88 ≥ 0 then (if ji89 ≤ t130 then ((dropperlaw04_Awake.f kj90).bind fun t134 => (some t134)) else (if ji89 ≤ 0 then ((dropperlaw04_Awake.f kj90).bind fun t135 => (some t135)) else (some false))) else (some false))) else (some false)) = some r := H
                      have A144 := Aside0.mk A1440
                      clear A1440
                      by_cases c145 : t131 = 0
                      rotate_left
                      · rw [if_neg c145] at H
                        have c145b0 : (t131 == 0) = false := beq_eq_false_iff_ne.mpr c145
                        have c145b1 : (t131 != 0) = true := bne_iff_ne.mpr c145
                        exact absurd (hT.symm.trans (Option.some.inj H).symm) (by decide)
                      rw [if_pos c145] at H
                      have c145b0 : (t131 == 0) = true := beq_iff_eq.mpr c145
                      have c145b1 : (t131 != 0) = false := bne_eq_false_iff_eq.mpr c145
                      clear c145
                      by_cases c146 : ji88 ≥ t129
                      · rw [if_pos c146] at H
                        have c146b0 : decide (t129 ≤ ji88) = true := decide_eq_true c146
                        clear c146
                        by_cases c147 : ji89 ≤ t130
                        · rw [if_pos c147] at H
                          have c147b0 : decide (ji89 ≤ t130) = true := decide_eq_true c147
                          clear c147
                          replace H := Option.bind_eq_some_iff.mp H
                          obtain ⟨t132, A1480, H⟩ := H
                          replace H : (some t132) = some r := H
                          have A148 := Aside0.mk A1480
                          clear A1480
                          clear hT
                          obtain rfl := Option.some.inj H
                          have hnb149 := NB101_102.out
                          have hnc149 := NB102_101.out
                          have hnb150 := NB101_111.out
                          have hnc150 := NB111_101.out
                          have hnb151 := NB101_116.out
                          have hnc151 := NB116_101.out
                          have hnb152 := NB101_120.out
                          have hnc152 := NB120_101.out
                          have hcz153_0 : wc.cell? ⟨gb101, 0, none⟩ = some (.int .i64 a0_0) := (blk_cell BK101.out 0).trans rfl
                          have hcz153_1 : wc.cell? ⟨gb101, 1, none⟩ = some (.int .i64 a0_1) := (blk_cell BK101.out 1).trans rfl
                          have hcz153_2 : wc.cell? ⟨gb101, 2, none⟩ = some (.int .i64 a0_2) := (blk_cell BK101.out 2).trans rfl
                          have hcz153_3 : wc.cell? ⟨gb101, 3, none⟩ = some (.int .i64 a0_3) := (blk_cell BK101.out 3).trans rfl
                          have hfz153_0 := blk_frozen BK101.out 0
                          have hfz153_1 := blk_frozen BK101.out 1
                          have hfz153_2 := blk_frozen BK101.out 2
                          have hfz153_3 := blk_frozen BK101.out 3
                          go_wp2_with (first | ((with_reducible refine gate_dst (N := 24) rfl ?_); refine box_event ?hg (N := 24) ?hd (cs := #[.int .i64 0, .int .i64 0, .int .i64 0, .int .i64 0]) (t := 23) ?hr ?_; (case hd => rfl); (case hg => rfl); (case hr => first | (go_simp; done) | (go_simp; rfl)); intro gb126 hg w154 hbox hb; have n0_ := Aside0.mk (bkB BK101 hb); have n1_ := Aside0.mk (bkB BK102 hb); have n2_ := Aside0.mk (bkB BK111 hb); have n3_ := Aside0.mk (bkB BK116 hb); have n4_ := Aside0.mk (bkB BK120 hb); have n5_ := Aside0.mk (below_step (by repeat (first | (with_reducible first | exact HB.out | apply below_alloc | apply pw_below_drewN | apply below_drew1 | refine below_set ?_ GE101.out | refine below_set ?_ GE102.out | refine below_set ?_ GE111.out | refine below_set ?_ GE116.out | refine below_set ?_ GE120.out) | exact HB.out)) hb); have n6_ := Aside0.mk (hbox); have n7_ := Aside0.mk ((by rw [hg]; exact (below_size (by repeat (first | (with_reducible first | exact HB.out | apply below_alloc | apply pw_below_drewN | apply below_drew1 | refine below_set ?_ GE101.out | refine below_set ?_ GE102.out | refine below_set ?_ GE111.out | refine below_set ?_ GE116.out | refine below_set ?_ GE120.out) | exact HB.out))) : w.heap.size ≤ gb126)); have n8_ := Aside0.mk ((by rw [hg]; exact (below_size (by repeat (first | (with_reducible first | exact HB.out | apply below_alloc | apply pw_below_drewN | apply below_drew1 | refine below_set ?_ GE101.out | refine below_set ?_ GE102.out | refine below_set ?_ GE111.out | refine below_set ?_ GE116.out | refine below_set ?_ GE120.out) | exact HB.out))) : w.heap.size ≤ gb126)); have n9_ := Aside0.mk ((bkL BK101 hg : gb101 ≠ gb126)); have n10_ := Aside0.mk ((bkG BK101 hg : gb126 ≠ gb101)); have n11_ := Aside0.mk ((bkL BK102 hg : gb102 ≠ gb126)); have n12_ := Aside0.mk ((bkG BK102 hg : gb126 ≠ gb102)); have n13_ := Aside0.mk ((bkL BK111 hg : gb111 ≠ gb126)); have n14_ := Aside0.mk ((bkG BK111 hg : gb126 ≠ gb111)); have n15_ := Aside0.mk ((bkL BK116 hg : gb116 ≠ gb126)); have n16_ := Aside0.mk ((bkG BK116 hg : gb126 ≠ gb116)); have n17_ := Aside0.mk ((bkL BK120 hg : gb120 ≠ gb126)); have n18_ := Aside0.mk ((bkG BK120 hg : gb126 ≠ gb120)); clear BK101; clear BK102; clear BK111; clear BK116; clear BK120; clear HB; have BK101 := n0_; have BK102 := n1_; have BK111 := n2_; have BK116 := n3_; have BK120 := n4_; have HB := n5_; have BK126 := n6_; have GW126 := n7_; have GE126 := n8_; have NB101_126 := n9_; have NB126_101 := n10_; have NB102_126 := n11_; have NB126_102 := n12_; have NB111_126 := n13_; have NB126_111 := n14_; have NB116_126 := n15_; have NB126_116 := n16_; have NB120_126 := n17_; have NB126_120 := n18_; clear n0_ n1_ n2_ n3_ n4_ n5_ n6_ n7_ n8_ n9_ n10_ n11_ n12_ n13_ n14_ n15_ n16_ n17_ n18_; clear hb hbox hg; have hnb155 := NB126_101.out; have hnc155 := NB101_126.out; have hnb156 := NB126_102.out; have hnc156 := NB102_126.out; have hnb157 := NB126_111.out; have hnc157 := NB111_126.out; have hnb158 := NB126_116.out; have hnc158 := NB116_126.out; have hnb159 := NB126_120.out; have hnc159 := NB120_126.out; have hcz160_0 : w154.cell? ⟨gb126, 0, none⟩ = some (.int .i64 0) := (blk_cell BK126.out 0).trans rfl; have hcz160_1 : w154.cell? ⟨gb126, 1, none⟩ = some (.int .i64 0) := (blk_cell BK126.out 1).trans rfl; have hcz160_2 : w154.cell? ⟨gb126, 2, none⟩ = some (.int .i64 0) := (blk_cell BK126.out 2).trans rfl; have hcz160_3 : w154.cell? ⟨gb126, 3, none⟩ = some (.int .i64 0) := (blk_cell BK126.out 3).trans rfl; have hfz160_0 := blk_frozen BK126.out 0; have hfz160_1 := blk_frozen BK126.out 1; have hfz160_2 := blk_frozen BK126.out 2; have hfz160_3 := blk_frozen BK126.out 3; have hcz161_0 : w154.cell? ⟨gb101, 0, none⟩ = some (.int .i64 a0_0) := (blk_cell BK101.out 0).trans rfl; have hcz161_1 : w154.cell? ⟨gb101, 1, none⟩ = some (.int .i64 a0_1) := (blk_cell BK101.out 1).trans rfl; have hcz161_2 : w154.cell? ⟨gb101, 2, none⟩ = some (.int .i64 a0_2) := (blk_cell BK101.out 2).trans rfl; have hcz161_3 : w154.cell? ⟨gb101, 3, none⟩ = some (.int .i64 a0_3) := (blk_cell BK101.out 3).trans rfl; have hfz161_0 := blk_frozen BK101.out 0; have hfz161_1 := blk_frozen BK101.out 1; have hfz161_2 := blk_frozen BK101.out 2; have hfz161_3 := blk_frozen BK101.out 3) | (go_at_call 21; (with_reducible refine (pull_Base.calls a0_0 a0_1 a0_2 a0_3 ji88 ji89 t127 t128 _ A142.out).mono ?_); rintro e w162 ⟨rfl, hb⟩; have n0_ := Aside0.mk (blk_below (g := gb101) (o := .cells #[.int .i64 a0_0, .int .i64 a0_1, .int .i64 a0_2, .int .i64 a0_3] 23 (0, 0)) (by (with_reducible repeat (first | refine blk_drewN ?_ _ | refine blk_drew ?_ | refine blk_alloc ?_ _)); refine blk_far ?_ NB101_126.out _; (with_reducible repeat (first | refine blk_drewN ?_ _ | refine blk_drew ?_ | refine blk_alloc ?_ _)); refine blk_far ?_ NB101_126.out _; (with_reducible repeat (first | refine blk_drewN ?_ _ | refine blk_drew ?_ | refine blk_alloc ?_ _)); refine blk_far ?_ NB101_126.out _; (with_reducible repeat (first | refine blk_drewN ?_ _ | refine blk_drew ?_ | refine blk_alloc ?_ _)); refine blk_far ?_ NB101_126.out _; (with_reducible repeat (first | refine blk_drewN ?_ _ | refine blk_drew ?_ | refine blk_alloc ?_ _)); exact BK101.out) hb); have n1_ := Aside0.mk (blk_below (g := gb102) (o := .cells #[.int .u8 a1_0, .int .u8 a1_1, .int .u8 a1_2] 62 (0, 0)) (by (with_reducible repeat (first | refine blk_drewN ?_ _ | refine blk_drew ?_ | refine blk_alloc ?_ _)); refine blk_far ?_ NB102_126.out _; (with_reducible repeat (first | refine blk_drewN ?_ _ | refine blk_drew ?_ | refine blk_alloc ?_ _)); refine blk_far ?_ NB102_126.out _; (with_reducible repeat (first | refine blk_drewN ?_ _ | refine blk_drew ?_ | refine blk_alloc ?_ _)); refine blk_far ?_ NB102_126.out _; (with_reducible repeat (first | refine blk_drewN ?_ _ | refine blk_drew ?_ | refine blk_alloc ?_ _)); refine blk_far ?_ NB102_126.out _; (with_reducible repeat (first | refine blk_drewN ?_ _ | refine blk_drew ?_ | refine blk_alloc ?_ _)); exact BK102.out) hb); have n2_ := Aside0.mk (blk_below (g := gb111) (o := .cells #[.int .i64 t108, .int .i64 t109] 25 (0, 0)) (by (with_reducible repeat (first | refine blk_drewN ?_ _ | refine blk_drew ?_ | refine blk_alloc ?_ _)); refine blk_far ?_ NB111_126.out _; (with_reducible repeat (first | refine blk_drewN ?_ _ | refine blk_drew ?_ | refine blk_alloc ?_ _)); refine blk_far ?_ NB111_126.out _; (with_reducible repeat (first | refine blk_drewN ?_ _ | refine blk_drew ?_ | refine blk_alloc ?_ _)); refine blk_far ?_ NB111_126.out _; (with_reducible repeat (first | refine blk_drewN ?_ _ | refine blk_drew ?_ | refine blk_alloc ?_ _)); refine blk_far ?_ NB111_126.out _; (with_reducible repeat (first | refine blk_drewN ?_ _ | refine blk_drew ?_ | refine blk_alloc ?_ _)); exact BK111.out) hb); have n3_ := Aside0.mk (blk_below (g := gb116) (o := .cells #[.int .i64 (wrap64 (1 + (Int.tmod (wrap64 (a2)) a0_0))), .int .i64 a0_1, .int .i64 a0_2, .int .i64 a0_3] 23 (0, 0)) (by (with_reducible repeat (first | refine blk_drewN ?_ _ | refine blk_drew ?_ | refine blk_alloc ?_ _)); refine blk_far ?_ NB116_126.out _; (with_reducible repeat (first | refine blk_drewN ?_ _ | refine blk_drew ?_ | refine blk_alloc ?_ _)); refine blk_far ?_ NB116_126.out _; (with_reducible repeat (first | refine blk_drewN ?_ _ | refine blk_drew ?_ | refine blk_alloc ?_ _)); refine blk_far ?_ NB116_126.out _; (with_reducible repeat (first | refine blk_drewN ?_ _ | refine blk_drew ?_ | refine blk_alloc ?_ _)); refine blk_far ?_ NB116_126.out _; (with_reducible repeat (first | refine blk_drewN ?_ _ | refine blk_drew ?_ | refine blk_alloc ?_ _)); exact BK116.out) hb); have n4_ := Aside0.mk (blk_below (g := gb120) (o := .cells #[.int .i64 t121, .int .i64 a0_1, .int .i64 a0_2, .int .i64 a0_3] 23 (0, 0)) (by (with_reducible repeat (first | refine blk_drewN ?_ _ | refine blk_drew ?_ | refine blk_alloc ?_ _)); refine blk_far ?_ NB120_126.out _; (with_reducible repeat (first | refine blk_drewN ?_ _ | refine blk_drew ?_ | refine blk_alloc ?_ _)); refine blk_far ?_ NB120_126.out _; (with_reducible repeat (first | refine blk_drewN ?_ _ | refine blk_drew ?_ | refine blk_alloc ?_ _)); refine blk_far ?_ NB120_126.out _; (with_reducible repeat (first | refine blk_drewN ?_ _ | refine blk_drew ?_ | refine blk_alloc ?_ _)); refine blk_far ?_ NB120_126.out _; (with_reducible repeat (first | refine blk_drewN ?_ _ | refine blk_drew ?_ | refine blk_alloc ?_ _)); exact BK120.out) hb); have n5_ := Aside0.mk (blk_below (g := gb126) (o := .cells #[.int .i64 a0_0, .int .i64 a0_1, .int .i64 a0_2, .int .i64 a0_3] 23 (0, 0)) (by (with_reducible repeat (first | refine blk_drewN ?_ _ | refine blk_drew ?_ | refine blk_alloc ?_ _)); refine blk_put (cs := #[.int .i64 a0_0, .int .i64 a0_1, .int .i64 a0_2, .int .i64 0]) ?_ 3 _ rfl; (with_reducible repeat (first | refine blk_drewN ?_ _ | refine blk_drew ?_ | refine blk_alloc ?_ _)); refine blk_put (cs := #[.int .i64 a0_0, .int .i64 a0_1, .int .i64 0, .int .i64 0]) ?_ 2 _ rfl; (with_reducible repeat (first | refine blk_drewN ?_ _ | refine blk_drew ?_ | refine blk_alloc ?_ _)); refine blk_put (cs := #[.int .i64 a0_0, .int .i64 0, .int .i64 0, .int .i64 0]) ?_ 1 _ rfl; (with_reducible repeat (first | refine blk_drewN ?_ _ | refine blk_drew ?_ | refine blk_alloc ?_ _)); refine blk_put (cs := #[.int .i64 0, .int .i64 0, .int .i64 0, .int .i64 0]) ?_ 0 _ rfl; (with_reducible repeat (first | refine blk_drewN ?_ _ | refine blk_drew ?_ | refine blk_alloc ?_ _)); exact BK126.out) hb); have n6_ := Aside0.mk (below_step (by repeat (first | (with_reducible first | exact HB.out | apply below_alloc | apply pw_below_drewN | apply below_drew1 | refine below_set ?_ GE101.out | refine below_set ?_ GE102.out | refine below_set ?_ GE111.out | refine below_set ?_ GE116.out | refine below_set ?_ GE120.out | refine below_set ?_ GE126.out) | exact HB.out)) hb); clear BK101; clear BK102; clear BK111; clear BK116; clear BK120; clear BK126; clear HB; have BK101 := n0_; have BK102 := n1_; have BK111 := n2_; have BK116 := n3_; have BK120 := n4_; have BK126 := n5_; have HB := n6_; clear n0_ n1_ n2_ n3_ n4_ n5_ n6_; (try clear hb); (try clear hb2); (try clear hk); (try clear hi); have hcz163_0 : w162.cell? ⟨gb126, 0, none⟩ = some (.int .i64 a0_0) := (blk_cell BK126.out 0).trans rfl; have hcz163_1 : w162.cell? ⟨gb126, 1, none⟩ = some (.int .i64 a0_1) := (blk_cell BK126.out 1).trans rfl; have hcz163_2 : w162.cell? ⟨gb126, 2, none⟩ = some (.int .i64 a0_2) := (blk_cell BK126.out 2).trans rfl; have hcz163_3 : w162.cell? ⟨gb126, 3, none⟩ = some (.int .i64 a0_3) := (blk_cell BK126.out 3).trans rfl; have hfz163_0 := blk_frozen BK126.out 0; have hfz163_1 := blk_frozen BK126.out 1; have hfz163_2 := blk_frozen BK126.out 2; have hfz163_3 := blk_frozen BK126.out 3) | (go_at_call 14; (with_reducible refine (pull_Free.calls kj90 a0_0 a0_1 t127 a0_3 t129 t130 t131 _ A144.out).mono ?_); rintro e w164 ⟨rfl, hb⟩; have n0_ := Aside0.mk (blk_below (g := gb101) (o := .cells #[.int .i64 a0_0, .int .i64 a0_1, .int .i64 a0_2, .int .i64 a0_3] 23 (0, 0)) (bkF1 BK101 NB101_126) hb); have n1_ := Aside0.mk (blk_below (g := gb102) (o := .cells #[.int .u8 a1_0, .int .u8 a1_1, .int .u8 a1_2] 62 (0, 0)) (bkF1 BK102 NB102_126) hb); have n2_ := Aside0.mk (blk_below (g := gb111) (o := .cells #[.int .i64 t108, .int .i64 t109] 25 (0, 0)) (bkF1 BK111 NB111_126) hb); have n3_ := Aside0.mk (blk_below (g := gb116) (o := .cells #[.int .i64 (wrap64 (1 + (Int.tmod (wrap64 (a2)) a0_0))), .int .i64 a0_1, .int .i64 a0_2, .int .i64 a0_3] 23 (0, 0)) (bkF1 BK116 NB116_126) hb); have n4_ := Aside0.mk (blk_below (g := gb120) (o := .cells #[.int .i64 t121, .int .i64 a0_1, .int .i64 a0_2, .int .i64 a0_3] 23 (0, 0)) (bkF1 BK120 NB120_126) hb); have n5_ := Aside0.mk (blk_below (g := gb126) (o := .cells #[.int .i64 a0_0, .int .i64 a0_1, .int .i64 t127, .int .i64 a0_3] 23 (0, 0)) (by (with_reducible repeat (first | refine blk_drewN ?_ _ | refine blk_drew ?_ | refine blk_alloc ?_ _)); refine blk_put (cs := #[.int .i64 a0_0, .int .i64 a0_1, .int .i64 a0_2, .int .i64 a0_3]) ?_ 2 _ rfl; (with_reducible repeat (first | refine blk_drewN ?_ _ | refine blk_drew ?_ | refine blk_alloc ?_ _)); exact BK126.out) hb); have n6_ := Aside0.mk (below_step (by repeat (first | (with_reducible first | exact HB.out | apply below_alloc | apply pw_below_drewN | apply below_drew1 | refine below_set ?_ GE101.out | refine below_set ?_ GE102.out | refine below_set ?_ GE111.out | refine below_set ?_ GE116.out | refine below_set ?_ GE120.out | refine below_set ?_ GE126.out) | exact HB.out)) hb); clear BK101; clear BK102; clear BK111; clear BK116; clear BK120; clear BK126; clear HB; have BK101 := n0_; have BK102 := n1_; have BK111 := n2_; have BK116 := n3_; have BK120 := n4_; have BK126 := n5_; have HB := n6_; clear n0_ n1_ n2_ n3_ n4_ n5_ n6_; (try clear hb); (try clear hb2); (try clear hk); (try clear hi)) | (go_at_call 18; (with_reducible refine (dropperlaw04_Awake.calls kj90  t132 _ A148.out).mono ?_); rintro e w165 ⟨rfl, hb⟩; have n0_ := Aside0.mk (bkB BK101 hb); have n1_ := Aside0.mk (bkB BK102 hb); have n2_ := Aside0.mk (bkB BK111 hb); have n3_ := Aside0.mk (bkB BK116 hb); have n4_ := Aside0.mk (bkB BK120 hb); have n5_ := Aside0.mk (bkB BK126 hb); have n6_ := Aside0.mk (below_step (by repeat (first | (with_reducible first | exact HB.out | apply below_alloc | apply pw_below_drewN | apply below_drew1 | refine below_set ?_ GE101.out | refine below_set ?_ GE102.out | refine below_set ?_ GE111.out | refine below_set ?_ GE116.out | refine below_set ?_ GE120.out | refine below_set ?_ GE126.out) | exact HB.out)) hb); clear BK101; clear BK102; clear BK111; clear BK116; clear BK120; clear BK126; clear HB; have BK101 := n0_; have BK102 := n1_; have BK111 := n2_; have BK116 := n3_; have BK120 := n4_; have BK126 := n5_; have HB := n6_; clear n0_ n1_ n2_ n3_ n4_ n5_ n6_; (try clear hb); (try clear hb2); (try clear hk); (try clear hi)))
                          repeat (go_quiet (fail); try go_wp2_with (fail))
                          go_ret
                          exact ⟨by first | rfl | (simp [errW_none, errW_some] <;> rfl) | (simp only [← hji86, ← hji87, ← hji88, ← hji89]; first | rfl | (simp [errW_none, errW_some] <;> rfl)) | (simp [*, errW_none, errW_some] <;> rfl), by repeat (first | (with_reducible first | exact HB.out | apply below_alloc | apply pw_below_drewN | apply below_drew1 | refine below_set ?_ GE101.out | refine below_set ?_ GE102.out | refine below_set ?_ GE111.out | refine below_set ?_ GE116.out | refine below_set ?_ GE120.out | refine below_set ?_ GE126.out) | exact HB.out)⟩
                        rw [if_neg c147] at H
                        have c147b0 : decide (ji89 ≤ t130) = false := decide_eq_false c147
                        clear c147
                        by_cases c166 : ji89 ≤ 0
                        rotate_left
                        · rw [if_neg c166] at H
                          have c166b0 : decide (ji89 ≤ 0) = false := decide_eq_false c166
                          clear c166
                          exact absurd (hT.symm.trans (Option.some.inj H).symm) (by decide)
                        rw [if_pos c166] at H
                        have c166b0 : decide (ji89 ≤ 0) = true := decide_eq_true c166
                        clear c166
                        replace H := Option.bind_eq_some_iff.mp H
                        obtain ⟨t133, A1670, H⟩ := H
                        replace H : (some t133) = some r := H
                        have A167 := Aside0.mk A1670
                        clear A1670
                        clear hT
                        obtain rfl := Option.some.inj H
                        have hnb168 := NB101_102.out
                        have hnc168 := NB102_101.out
                        have hnb169 := NB101_111.out
                        have hnc169 := NB111_101.out
                        have hnb170 := NB101_116.out
                        have hnc170 := NB116_101.out
                        have hnb171 := NB101_120.out
                        have hnc171 := NB120_101.out
                        have hcz172_0 : wc.cell? ⟨gb101, 0, none⟩ = some (.int .i64 a0_0) := (blk_cell BK101.out 0).trans rfl
                        have hcz172_1 : wc.cell? ⟨gb101, 1, none⟩ = some (.int .i64 a0_1) := (blk_cell BK101.out 1).trans rfl
                        have hcz172_2 : wc.cell? ⟨gb101, 2, none⟩ = some (.int .i64 a0_2) := (blk_cell BK101.out 2).trans rfl
                        have hcz172_3 : wc.cell? ⟨gb101, 3, none⟩ = some (.int .i64 a0_3) := (blk_cell BK101.out 3).trans rfl
                        have hfz172_0 := blk_frozen BK101.out 0
                        have hfz172_1 := blk_frozen BK101.out 1
                        have hfz172_2 := blk_frozen BK101.out 2
                        have hfz172_3 := blk_frozen BK101.out 3
                        go_wp2_with (first | ((with_reducible refine gate_dst (N := 24) rfl ?_); refine box_event ?hg (N := 24) ?hd (cs := #[.int .i64 0, .int .i64 0, .int .i64 0, .int .i64 0]) (t := 23) ?hr ?_; (case hd => rfl); (case hg => rfl); (case hr => first | (go_simp; done) | (go_simp; rfl)); intro gb126 hg w173 hbox hb; have n0_ := Aside0.mk (bkB BK101 hb); have n1_ := Aside0.mk (bkB BK102 hb); have n2_ := Aside0.mk (bkB BK111 hb); have n3_ := Aside0.mk (bkB BK116 hb); have n4_ := Aside0.mk (bkB BK120 hb); have n5_ := Aside0.mk (below_step (by repeat (first | (with_reducible first | exact HB.out | apply below_alloc | apply pw_below_drewN | apply below_drew1 | refine below_set ?_ GE101.out | refine below_set ?_ GE102.out | refine below_set ?_ GE111.out | refine below_set ?_ GE116.out | refine below_set ?_ GE120.out) | exact HB.out)) hb); have n6_ := Aside0.mk (hbox); have n7_ := Aside0.mk ((by rw [hg]; exact (below_size (by repeat (first | (with_reducible first | exact HB.out | apply below_alloc | apply pw_below_drewN | apply below_drew1 | refine below_set ?_ GE101.out | refine below_set ?_ GE102.out | refine below_set ?_ GE111.out | refine below_set ?_ GE116.out | refine below_set ?_ GE120.out) | exact HB.out))) : w.heap.size ≤ gb126)); have n8_ := Aside0.mk ((by rw [hg]; exact (below_size (by repeat (first | (with_reducible first | exact HB.out | apply below_alloc | apply pw_below_drewN | apply below_drew1 | refine below_set ?_ GE101.out | refine below_set ?_ GE102.out | refine below_set ?_ GE111.out | refine below_set ?_ GE116.out | refine below_set ?_ GE120.out) | exact HB.out))) : w.heap.size ≤ gb126)); have n9_ := Aside0.mk ((bkL BK101 hg : gb101 ≠ gb126)); have n10_ := Aside0.mk ((bkG BK101 hg : gb126 ≠ gb101)); have n11_ := Aside0.mk ((bkL BK102 hg : gb102 ≠ gb126)); have n12_ := Aside0.mk ((bkG BK102 hg : gb126 ≠ gb102)); have n13_ := Aside0.mk ((bkL BK111 hg : gb111 ≠ gb126)); have n14_ := Aside0.mk ((bkG BK111 hg : gb126 ≠ gb111)); have n15_ := Aside0.mk ((bkL BK116 hg : gb116 ≠ gb126)); have n16_ := Aside0.mk ((bkG BK116 hg : gb126 ≠ gb116)); have n17_ := Aside0.mk ((bkL BK120 hg : gb120 ≠ gb126)); have n18_ := Aside0.mk ((bkG BK120 hg : gb126 ≠ gb120)); clear BK101; clear BK102; clear BK111; clear BK116; clear BK120; clear HB; have BK101 := n0_; have BK102 := n1_; have BK111 := n2_; have BK116 := n3_; have BK120 := n4_; have HB := n5_; have BK126 := n6_; have GW126 := n7_; have GE126 := n8_; have NB101_126 := n9_; have NB126_101 := n10_; have NB102_126 := n11_; have NB126_102 := n12_; have NB111_126 := n13_; have NB126_111 := n14_; have NB116_126 := n15_; have NB126_116 := n16_; have NB120_126 := n17_; have NB126_120 := n18_; clear n0_ n1_ n2_ n3_ n4_ n5_ n6_ n7_ n8_ n9_ n10_ n11_ n12_ n13_ n14_ n15_ n16_ n17_ n18_; clear hb hbox hg; have hnb174 := NB126_101.out; have hnc174 := NB101_126.out; have hnb175 := NB126_102.out; have hnc175 := NB102_126.out; have hnb176 := NB126_111.out; have hnc176 := NB111_126.out; have hnb177 := NB126_116.out; have hnc177 := NB116_126.out; have hnb178 := NB126_120.out; have hnc178 := NB120_126.out; have hcz179_0 : w173.cell? ⟨gb126, 0, none⟩ = some (.int .i64 0) := (blk_cell BK126.out 0).trans rfl; have hcz179_1 : w173.cell? ⟨gb126, 1, none⟩ = some (.int .i64 0) := (blk_cell BK126.out 1).trans rfl; have hcz179_2 : w173.cell? ⟨gb126, 2, none⟩ = some (.int .i64 0) := (blk_cell BK126.out 2).trans rfl; have hcz179_3 : w173.cell? ⟨gb126, 3, none⟩ = some (.int .i64 0) := (blk_cell BK126.out 3).trans rfl; have hfz179_0 := blk_frozen BK126.out 0; have hfz179_1 := blk_frozen BK126.out 1; have hfz179_2 := blk_frozen BK126.out 2; have hfz179_3 := blk_frozen BK126.out 3; have hcz180_0 : w173.cell? ⟨gb101, 0, none⟩ = some (.int .i64 a0_0) := (blk_cell BK101.out 0).trans rfl; have hcz180_1 : w173.cell? ⟨gb101, 1, none⟩ = some (.int .i64 a0_1) := (blk_cell BK101.out 1).trans rfl; have hcz180_2 : w173.cell? ⟨gb101, 2, none⟩ = some (.int .i64 a0_2) := (blk_cell BK101.out 2).trans rfl; have hcz180_3 : w173.cell? ⟨gb101, 3, none⟩ = some (.int .i64 a0_3) := (blk_cell BK101.out 3).trans rfl; have hfz180_0 := blk_frozen BK101.out 0; have hfz180_1 := blk_frozen BK101.out 1; have hfz180_2 := blk_frozen BK101.out 2; have hfz180_3 := blk_frozen BK101.out 3) | (go_at_call 21; (with_reducible refine (pull_Base.calls a0_0 a0_1 a0_2 a0_3 ji88 ji89 t127 t128 _ A142.out).mono ?_); rintro e w181 ⟨rfl, hb⟩; have n0_ := Aside0.mk (blk_below (g := gb101) (o := .cells #[.int .i64 a0_0, .int .i64 a0_1, .int .i64 a0_2, .int .i64 a0_3] 23 (0, 0)) (by (with_reducible repeat (first | refine blk_drewN ?_ _ | refine blk_drew ?_ | refine blk_alloc ?_ _)); refine blk_far ?_ NB101_126.out _; (with_reducible repeat (first | refine blk_drewN ?_ _ | refine blk_drew ?_ | refine blk_alloc ?_ _)); refine blk_far ?_ NB101_126.out _; (with_reducible repeat (first | refine blk_drewN ?_ _ | refine blk_drew ?_ | refine blk_alloc ?_ _)); refine blk_far ?_ NB101_126.out _; (with_reducible repeat (first | refine blk_drewN ?_ _ | refine blk_drew ?_ | refine blk_alloc ?_ _)); refine blk_far ?_ NB101_126.out _; (with_reducible repeat (first | refine blk_drewN ?_ _ | refine blk_drew ?_ | refine blk_alloc ?_ _)); exact BK101.out) hb); have n1_ := Aside0.mk (blk_below (g := gb102) (o := .cells #[.int .u8 a1_0, .int .u8 a1_1, .int .u8 a1_2] 62 (0, 0)) (by (with_reducible repeat (first | refine blk_drewN ?_ _ | refine blk_drew ?_ | refine blk_alloc ?_ _)); refine blk_far ?_ NB102_126.out _; (with_reducible repeat (first | refine blk_drewN ?_ _ | refine blk_drew ?_ | refine blk_alloc ?_ _)); refine blk_far ?_ NB102_126.out _; (with_reducible repeat (first | refine blk_drewN ?_ _ | refine blk_drew ?_ | refine blk_alloc ?_ _)); refine blk_far ?_ NB102_126.out _; (with_reducible repeat (first | refine blk_drewN ?_ _ | refine blk_drew ?_ | refine blk_alloc ?_ _)); refine blk_far ?_ NB102_126.out _; (with_reducible repeat (first | refine blk_drewN ?_ _ | refine blk_drew ?_ | refine blk_alloc ?_ _)); exact BK102.out) hb); have n2_ := Aside0.mk (blk_below (g := gb111) (o := .cells #[.int .i64 t108, .int .i64 t109] 25 (0, 0)) (by (with_reducible repeat (first | refine blk_drewN ?_ _ | refine blk_drew ?_ | refine blk_alloc ?_ _)); refine blk_far ?_ NB111_126.out _; (with_reducible repeat (first | refine blk_drewN ?_ _ | refine blk_drew ?_ | refine blk_alloc ?_ _)); refine blk_far ?_ NB111_126.out _; (with_reducible repeat (first | refine blk_drewN ?_ _ | refine blk_drew ?_ | refine blk_alloc ?_ _)); refine blk_far ?_ NB111_126.out _; (with_reducible repeat (first | refine blk_drewN ?_ _ | refine blk_drew ?_ | refine blk_alloc ?_ _)); refine blk_far ?_ NB111_126.out _; (with_reducible repeat (first | refine blk_drewN ?_ _ | refine blk_drew ?_ | refine blk_alloc ?_ _)); exact BK111.out) hb); have n3_ := Aside0.mk (blk_below (g := gb116) (o := .cells #[.int .i64 (wrap64 (1 + (Int.tmod (wrap64 (a2)) a0_0))), .int .i64 a0_1, .int .i64 a0_2, .int .i64 a0_3] 23 (0, 0)) (by (with_reducible repeat (first | refine blk_drewN ?_ _ | refine blk_drew ?_ | refine blk_alloc ?_ _)); refine blk_far ?_ NB116_126.out _; (with_reducible repeat (first | refine blk_drewN ?_ _ | refine blk_drew ?_ | refine blk_alloc ?_ _)); refine blk_far ?_ NB116_126.out _; (with_reducible repeat (first | refine blk_drewN ?_ _ | refine blk_drew ?_ | refine blk_alloc ?_ _)); refine blk_far ?_ NB116_126.out _; (with_reducible repeat (first | refine blk_drewN ?_ _ | refine blk_drew ?_ | refine blk_alloc ?_ _)); refine blk_far ?_ NB116_126.out _; (with_reducible repeat (first | refine blk_drewN ?_ _ | refine blk_drew ?_ | refine blk_alloc ?_ _)); exact BK116.out) hb); have n4_ := Aside0.mk (blk_below (g := gb120) (o := .cells #[.int .i64 t121, .int .i64 a0_1, .int .i64 a0_2, .int .i64 a0_3] 23 (0, 0)) (by (with_reducible repeat (first | refine blk_drewN ?_ _ | refine blk_drew ?_ | refine blk_alloc ?_ _)); refine blk_far ?_ NB120_126.out _; (with_reducible repeat (first | refine blk_drewN ?_ _ | refine blk_drew ?_ | refine blk_alloc ?_ _)); refine blk_far ?_ NB120_126.out _; (with_reducible repeat (first | refine blk_drewN ?_ _ | refine blk_drew ?_ | refine blk_alloc ?_ _)); refine blk_far ?_ NB120_126.out _; (with_reducible repeat (first | refine blk_drewN ?_ _ | refine blk_drew ?_ | refine blk_alloc ?_ _)); refine blk_far ?_ NB120_126.out _; (with_reducible repeat (first | refine blk_drewN ?_ _ | refine blk_drew ?_ | refine blk_alloc ?_ _)); exact BK120.out) hb); have n5_ := Aside0.mk (blk_below (g := gb126) (o := .cells #[.int .i64 a0_0, .int .i64 a0_1, .int .i64 a0_2, .int .i64 a0_3] 23 (0, 0)) (by (with_reducible repeat (first | refine blk_drewN ?_ _ | refine blk_drew ?_ | refine blk_alloc ?_ _)); refine blk_put (cs := #[.int .i64 a0_0, .int .i64 a0_1, .int .i64 a0_2, .int .i64 0]) ?_ 3 _ rfl; (with_reducible repeat (first | refine blk_drewN ?_ _ | refine blk_drew ?_ | refine blk_alloc ?_ _)); refine blk_put (cs := #[.int .i64 a0_0, .int .i64 a0_1, .int .i64 0, .int .i64 0]) ?_ 2 _ rfl; (with_reducible repeat (first | refine blk_drewN ?_ _ | refine blk_drew ?_ | refine blk_alloc ?_ _)); refine blk_put (cs := #[.int .i64 a0_0, .int .i64 0, .int .i64 0, .int .i64 0]) ?_ 1 _ rfl; (with_reducible repeat (first | refine blk_drewN ?_ _ | refine blk_drew ?_ | refine blk_alloc ?_ _)); refine blk_put (cs := #[.int .i64 0, .int .i64 0, .int .i64 0, .int .i64 0]) ?_ 0 _ rfl; (with_reducible repeat (first | refine blk_drewN ?_ _ | refine blk_drew ?_ | refine blk_alloc ?_ _)); exact BK126.out) hb); have n6_ := Aside0.mk (below_step (by repeat (first | (with_reducible first | exact HB.out | apply below_alloc | apply pw_below_drewN | apply below_drew1 | refine below_set ?_ GE101.out | refine below_set ?_ GE102.out | refine below_set ?_ GE111.out | refine below_set ?_ GE116.out | refine below_set ?_ GE120.out | refine below_set ?_ GE126.out) | exact HB.out)) hb); clear BK101; clear BK102; clear BK111; clear BK116; clear BK120; clear BK126; clear HB; have BK101 := n0_; have BK102 := n1_; have BK111 := n2_; have BK116 := n3_; have BK120 := n4_; have BK126 := n5_; have HB := n6_; clear n0_ n1_ n2_ n3_ n4_ n5_ n6_; (try clear hb); (try clear hb2); (try clear hk); (try clear hi); have hcz182_0 : w181.cell? ⟨gb126, 0, none⟩ = some (.int .i64 a0_0) := (blk_cell BK126.out 0).trans rfl; have hcz182_1 : w181.cell? ⟨gb126, 1, none⟩ = some (.int .i64 a0_1) := (blk_cell BK126.out 1).trans rfl; have hcz182_2 : w181.cell? ⟨gb126, 2, none⟩ = some (.int .i64 a0_2) := (blk_cell BK126.out 2).trans rfl; have hcz182_3 : w181.cell? ⟨gb126, 3, none⟩ = some (.int .i64 a0_3) := (blk_cell BK126.out 3).trans rfl; have hfz182_0 := blk_frozen BK126.out 0; have hfz182_1 := blk_frozen BK126.out 1; have hfz182_2 := blk_frozen BK126.out 2; have hfz182_3 := blk_frozen BK126.out 3) | (go_at_call 14; (with_reducible refine (pull_Free.calls kj90 a0_0 a0_1 t127 a0_3 t129 t130 t131 _ A144.out).mono ?_); rintro e w183 ⟨rfl, hb⟩; have n0_ := Aside0.mk (blk_below (g := gb101) (o := .cells #[.int .i64 a0_0, .int .i64 a0_1, .int .i64 a0_2, .int .i64 a0_3] 23 (0, 0)) (bkF1 BK101 NB101_126) hb); have n1_ := Aside0.mk (blk_below (g := gb102) (o := .cells #[.int .u8 a1_0, .int .u8 a1_1, .int .u8 a1_2] 62 (0, 0)) (bkF1 BK102 NB102_126) hb); have n2_ := Aside0.mk (blk_below (g := gb111) (o := .cells #[.int .i64 t108, .int .i64 t109] 25 (0, 0)) (bkF1 BK111 NB111_126) hb); have n3_ := Aside0.mk (blk_below (g := gb116) (o := .cells #[.int .i64 (wrap64 (1 + (Int.tmod (wrap64 (a2)) a0_0))), .int .i64 a0_1, .int .i64 a0_2, .int .i64 a0_3] 23 (0, 0)) (bkF1 BK116 NB116_126) hb); have n4_ := Aside0.mk (blk_below (g := gb120) (o := .cells #[.int .i64 t121, .int .i64 a0_1, .int .i64 a0_2, .int .i64 a0_3] 23 (0, 0)) (bkF1 BK120 NB120_126) hb); have n5_ := Aside0.mk (blk_below (g := gb126) (o := .cells #[.int .i64 a0_0, .int .i64 a0_1, .int .i64 t127, .int .i64 a0_3] 23 (0, 0)) (by (with_reducible repeat (first | refine blk_drewN ?_ _ | refine blk_drew ?_ | refine blk_alloc ?_ _)); refine blk_put (cs := #[.int .i64 a0_0, .int .i64 a0_1, .int .i64 a0_2, .int .i64 a0_3]) ?_ 2 _ rfl; (with_reducible repeat (first | refine blk_drewN ?_ _ | refine blk_drew ?_ | refine blk_alloc ?_ _)); exact BK126.out) hb); have n6_ := Aside0.mk (below_step (by repeat (first | (with_reducible first | exact HB.out | apply below_alloc | apply pw_below_drewN | apply below_drew1 | refine below_set ?_ GE101.out | refine below_set ?_ GE102.out | refine below_set ?_ GE111.out | refine below_set ?_ GE116.out | refine below_set ?_ GE120.out | refine below_set ?_ GE126.out) | exact HB.out)) hb); clear BK101; clear BK102; clear BK111; clear BK116; clear BK120; clear BK126; clear HB; have BK101 := n0_; have BK102 := n1_; have BK111 := n2_; have BK116 := n3_; have BK120 := n4_; have BK126 := n5_; have HB := n6_; clear n0_ n1_ n2_ n3_ n4_ n5_ n6_; (try clear hb); (try clear hb2); (try clear hk); (try clear hi)) | (go_at_call 18; (with_reducible refine (dropperlaw04_Awake.calls kj90  t133 _ A167.out).mono ?_); rintro e w184 ⟨rfl, hb⟩; have n0_ := Aside0.mk (bkB BK101 hb); have n1_ := Aside0.mk (bkB BK102 hb); have n2_ := Aside0.mk (bkB BK111 hb); have n3_ := Aside0.mk (bkB BK116 hb); have n4_ := Aside0.mk (bkB BK120 hb); have n5_ := Aside0.mk (bkB BK126 hb); have n6_ := Aside0.mk (below_step (by repeat (first | (with_reducible first | exact HB.out | apply below_alloc | apply pw_below_drewN | apply below_drew1 | refine below_set ?_ GE101.out | refine below_set ?_ GE102.out | refine below_set ?_ GE111.out | refine below_set ?_ GE116.out | refine below_set ?_ GE120.out | refine below_set ?_ GE126.out) | exact HB.out)) hb); clear BK101; clear BK102; clear BK111; clear BK116; clear BK120; clear BK126; clear HB; have BK101 := n0_; have BK102 := n1_; have BK111 := n2_; have BK116 := n3_; have BK120 := n4_; have BK126 := n5_; have HB := n6_; clear n0_ n1_ n2_ n3_ n4_ n5_ n6_; (try clear hb); (try clear hb2); (try clear hk); (try clear hi)))
                        repeat (go_quiet (fail); try go_wp2_with (fail))
                        go_ret
                        exact ⟨by first | rfl | (simp [errW_none, errW_some] <;> rfl) | (simp only [← hji86, ← hji87, ← hji88, ← hji89]; first | rfl | (simp [errW_none, errW_some] <;> rfl)) | (simp [*, errW_none, errW_some] <;> rfl), by repeat (first | (with_reducible first | exact HB.out | apply below_alloc | apply pw_below_drewN | apply below_drew1 | refine below_set ?_ GE101.out | refine below_set ?_ GE102.out | refine below_set ?_ GE111.out | refine below_set ?_ GE116.out | refine below_set ?_ GE120.out | refine below_set ?_ GE126.out) | exact HB.out)⟩
                      rw [if_neg c146] at H
                      have c146b0 : decide (t129 ≤ ji88) = false := decide_eq_false c146
                      clear c146
                      by_cases c185 : ji88 ≥ 0
                      rotate_left
                      · rw [if_neg c185] at H
                        have c185b0 : decide (0 ≤ ji88) = false := decide_eq_false c185
                        clear c185
                        exact absurd (hT.symm.trans (Option.some.inj H).symm) (by decide)
                      rw [if_pos c185] at H
                      have c185b0 : decide (0 ≤ ji88) = true := decide_eq_true c185
                      clear c185
                      by_cases c186 : ji89 ≤ t130
                      · rw [if_pos c186] at H
                        have c186b0 : decide (ji89 ≤ t130) = true := decide_eq_true c186
                        clear c186
                        replace H := Option.bind_eq_some_iff.mp H
                        obtain ⟨t134, A1870, H⟩ := H
                        replace H : (some t134) = some r := H
                        have A187 := Aside0.mk A1870
                        clear A1870
                        clear hT
                        obtain rfl := Option.some.inj H
                        have hnb188 := NB101_102.out
                        have hnc188 := NB102_101.out
                        have hnb189 := NB101_111.out
                        have hnc189 := NB111_101.out
                        have hnb190 := NB101_116.out
                        have hnc190 := NB116_101.out
                        have hnb191 := NB101_120.out
                        have hnc191 := NB120_101.out
                        have hcz192_0 : wc.cell? ⟨gb101, 0, none⟩ = some (.int .i64 a0_0) := (blk_cell BK101.out 0).trans rfl
                        have hcz192_1 : wc.cell? ⟨gb101, 1, none⟩ = some (.int .i64 a0_1) := (blk_cell BK101.out 1).trans rfl
                        have hcz192_2 : wc.cell? ⟨gb101, 2, none⟩ = some (.int .i64 a0_2) := (blk_cell BK101.out 2).trans rfl
                        have hcz192_3 : wc.cell? ⟨gb101, 3, none⟩ = some (.int .i64 a0_3) := (blk_cell BK101.out 3).trans rfl
                        have hfz192_0 := blk_frozen BK101.out 0
                        have hfz192_1 := blk_frozen BK101.out 1
                        have hfz192_2 := blk_frozen BK101.out 2
                        have hfz192_3 := blk_frozen BK101.out 3
                        go_wp2_with (first | ((with_reducible refine gate_dst (N := 24) rfl ?_); refine box_event ?hg (N := 24) ?hd (cs := #[.int .i64 0, .int .i64 0, .int .i64 0, .int .i64 0]) (t := 23) ?hr ?_; (case hd => rfl); (case hg => rfl); (case hr => first | (go_simp; done) | (go_simp; rfl)); intro gb126 hg w193 hbox hb; have n0_ := Aside0.mk (bkB BK101 hb); have n1_ := Aside0.mk (bkB BK102 hb); have n2_ := Aside0.mk (bkB BK111 hb); have n3_ := Aside0.mk (bkB BK116 hb); have n4_ := Aside0.mk (bkB BK120 hb); have n5_ := Aside0.mk (below_step (by repeat (first | (with_reducible first | exact HB.out | apply below_alloc | apply pw_below_drewN | apply below_drew1 | refine below_set ?_ GE101.out | refine below_set ?_ GE102.out | refine below_set ?_ GE111.out | refine below_set ?_ GE116.out | refine below_set ?_ GE120.out) | exact HB.out)) hb); have n6_ := Aside0.mk (hbox); have n7_ := Aside0.mk ((by rw [hg]; exact (below_size (by repeat (first | (with_reducible first | exact HB.out | apply below_alloc | apply pw_below_drewN | apply below_drew1 | refine below_set ?_ GE101.out | refine below_set ?_ GE102.out | refine below_set ?_ GE111.out | refine below_set ?_ GE116.out | refine below_set ?_ GE120.out) | exact HB.out))) : w.heap.size ≤ gb126)); have n8_ := Aside0.mk ((by rw [hg]; exact (below_size (by repeat (first | (with_reducible first | exact HB.out | apply below_alloc | apply pw_below_drewN | apply below_drew1 | refine below_set ?_ GE101.out | refine below_set ?_ GE102.out | refine below_set ?_ GE111.out | refine below_set ?_ GE116.out | refine below_set ?_ GE120.out) | exact HB.out))) : w.heap.size ≤ gb126)); have n9_ := Aside0.mk ((bkL BK101 hg : gb101 ≠ gb126)); have n10_ := Aside0.mk ((bkG BK101 hg : gb126 ≠ gb101)); have n11_ := Aside0.mk ((bkL BK102 hg : gb102 ≠ gb126)); have n12_ := Aside0.mk ((bkG BK102 hg : gb126 ≠ gb102)); have n13_ := Aside0.mk ((bkL BK111 hg : gb111 ≠ gb126)); have n14_ := Aside0.mk ((bkG BK111 hg : gb126 ≠ gb111)); have n15_ := Aside0.mk ((bkL BK116 hg : gb116 ≠ gb126)); have n16_ := Aside0.mk ((bkG BK116 hg : gb126 ≠ gb116)); have n17_ := Aside0.mk ((bkL BK120 hg : gb120 ≠ gb126)); have n18_ := Aside0.mk ((bkG BK120 hg : gb126 ≠ gb120)); clear BK101; clear BK102; clear BK111; clear BK116; clear BK120; clear HB; have BK101 := n0_; have BK102 := n1_; have BK111 := n2_; have BK116 := n3_; have BK120 := n4_; have HB := n5_; have BK126 := n6_; have GW126 := n7_; have GE126 := n8_; have NB101_126 := n9_; have NB126_101 := n10_; have NB102_126 := n11_; have NB126_102 := n12_; have NB111_126 := n13_; have NB126_111 := n14_; have NB116_126 := n15_; have NB126_116 := n16_; have NB120_126 := n17_; have NB126_120 := n18_; clear n0_ n1_ n2_ n3_ n4_ n5_ n6_ n7_ n8_ n9_ n10_ n11_ n12_ n13_ n14_ n15_ n16_ n17_ n18_; clear hb hbox hg; have hnb194 := NB126_101.out; have hnc194 := NB101_126.out; have hnb195 := NB126_102.out; have hnc195 := NB102_126.out; have hnb196 := NB126_111.out; have hnc196 := NB111_126.out; have hnb197 := NB126_116.out; have hnc197 := NB116_126.out; have hnb198 := NB126_120.out; have hnc198 := NB120_126.out; have hcz199_0 : w193.cell? ⟨gb126, 0, none⟩ = some (.int .i64 0) := (blk_cell BK126.out 0).trans rfl; have hcz199_1 : w193.cell? ⟨gb126, 1, none⟩ = some (.int .i64 0) := (blk_cell BK126.out 1).trans rfl; have hcz199_2 : w193.cell? ⟨gb126, 2, none⟩ = some (.int .i64 0) := (blk_cell BK126.out 2).trans rfl; have hcz199_3 : w193.cell? ⟨gb126, 3, none⟩ = some (.int .i64 0) := (blk_cell BK126.out 3).trans rfl; have hfz199_0 := blk_frozen BK126.out 0; have hfz199_1 := blk_frozen BK126.out 1; have hfz199_2 := blk_frozen BK126.out 2; have hfz199_3 := blk_frozen BK126.out 3; have hcz200_0 : w193.cell? ⟨gb101, 0, none⟩ = some (.int .i64 a0_0) := (blk_cell BK101.out 0).trans rfl; have hcz200_1 : w193.cell? ⟨gb101, 1, none⟩ = some (.int .i64 a0_1) := (blk_cell BK101.out 1).trans rfl; have hcz200_2 : w193.cell? ⟨gb101, 2, none⟩ = some (.int .i64 a0_2) := (blk_cell BK101.out 2).trans rfl; have hcz200_3 : w193.cell? ⟨gb101, 3, none⟩ = some (.int .i64 a0_3) := (blk_cell BK101.out 3).trans rfl; have hfz200_0 := blk_frozen BK101.out 0; have hfz200_1 := blk_frozen BK101.out 1; have hfz200_2 := blk_frozen BK101.out 2; have hfz200_3 := blk_frozen BK101.out 3) | (go_at_call 21; (with_reducible refine (pull_Base.calls a0_0 a0_1 a0_2 a0_3 ji88 ji89 t127 t128 _ A142.out).mono ?_); rintro e w201 ⟨rfl, hb⟩; have n0_ := Aside0.mk (blk_below (g := gb101) (o := .cells #[.int .i64 a0_0, .int .i64 a0_1, .int .i64 a0_2, .int .i64 a0_3] 23 (0, 0)) (by (with_reducible repeat (first | refine blk_drewN ?_ _ | refine blk_drew ?_ | refine blk_alloc ?_ _)); refine blk_far ?_ NB101_126.out _; (with_reducible repeat (first | refine blk_drewN ?_ _ | refine blk_drew ?_ | refine blk_alloc ?_ _)); refine blk_far ?_ NB101_126.out _; (with_reducible repeat (first | refine blk_drewN ?_ _ | refine blk_drew ?_ | refine blk_alloc ?_ _)); refine blk_far ?_ NB101_126.out _; (with_reducible repeat (first | refine blk_drewN ?_ _ | refine blk_drew ?_ | refine blk_alloc ?_ _)); refine blk_far ?_ NB101_126.out _; (with_reducible repeat (first | refine blk_drewN ?_ _ | refine blk_drew ?_ | refine blk_alloc ?_ _)); exact BK101.out) hb); have n1_ := Aside0.mk (blk_below (g := gb102) (o := .cells #[.int .u8 a1_0, .int .u8 a1_1, .int .u8 a1_2] 62 (0, 0)) (by (with_reducible repeat (first | refine blk_drewN ?_ _ | refine blk_drew ?_ | refine blk_alloc ?_ _)); refine blk_far ?_ NB102_126.out _; (with_reducible repeat (first | refine blk_drewN ?_ _ | refine blk_drew ?_ | refine blk_alloc ?_ _)); refine blk_far ?_ NB102_126.out _; (with_reducible repeat (first | refine blk_drewN ?_ _ | refine blk_drew ?_ | refine blk_alloc ?_ _)); refine blk_far ?_ NB102_126.out _; (with_reducible repeat (first | refine blk_drewN ?_ _ | refine blk_drew ?_ | refine blk_alloc ?_ _)); refine blk_far ?_ NB102_126.out _; (with_reducible repeat (first | refine blk_drewN ?_ _ | refine blk_drew ?_ | refine blk_alloc ?_ _)); exact BK102.out) hb); have n2_ := Aside0.mk (blk_below (g := gb111) (o := .cells #[.int .i64 t108, .int .i64 t109] 25 (0, 0)) (by (with_reducible repeat (first | refine blk_drewN ?_ _ | refine blk_drew ?_ | refine blk_alloc ?_ _)); refine blk_far ?_ NB111_126.out _; (with_reducible repeat (first | refine blk_drewN ?_ _ | refine blk_drew ?_ | refine blk_alloc ?_ _)); refine blk_far ?_ NB111_126.out _; (with_reducible repeat (first | refine blk_drewN ?_ _ | refine blk_drew ?_ | refine blk_alloc ?_ _)); refine blk_far ?_ NB111_126.out _; (with_reducible repeat (first | refine blk_drewN ?_ _ | refine blk_drew ?_ | refine blk_alloc ?_ _)); refine blk_far ?_ NB111_126.out _; (with_reducible repeat (first | refine blk_drewN ?_ _ | refine blk_drew ?_ | refine blk_alloc ?_ _)); exact BK111.out) hb); have n3_ := Aside0.mk (blk_below (g := gb116) (o := .cells #[.int .i64 (wrap64 (1 + (Int.tmod (wrap64 (a2)) a0_0))), .int .i64 a0_1, .int .i64 a0_2, .int .i64 a0_3] 23 (0, 0)) (by (with_reducible repeat (first | refine blk_drewN ?_ _ | refine blk_drew ?_ | refine blk_alloc ?_ _)); refine blk_far ?_ NB116_126.out _; (with_reducible repeat (first | refine blk_drewN ?_ _ | refine blk_drew ?_ | refine blk_alloc ?_ _)); refine blk_far ?_ NB116_126.out _; (with_reducible repeat (first | refine blk_drewN ?_ _ | refine blk_drew ?_ | refine blk_alloc ?_ _)); refine blk_far ?_ NB116_126.out _; (with_reducible repeat (first | refine blk_drewN ?_ _ | refine blk_drew ?_ | refine blk_alloc ?_ _)); refine blk_far ?_ NB116_126.out _; (with_reducible repeat (first | refine blk_drewN ?_ _ | refine blk_drew ?_ | refine blk_alloc ?_ _)); exact BK116.out) hb); have n4_ := Aside0.mk (blk_below (g := gb120) (o := .cells #[.int .i64 t121, .int .i64 a0_1, .int .i64 a0_2, .int .i64 a0_3] 23 (0, 0)) (by (with_reducible repeat (first | refine blk_drewN ?_ _ | refine blk_drew ?_ | refine blk_alloc ?_ _)); refine blk_far ?_ NB120_126.out _; (with_reducible repeat (first | refine blk_drewN ?_ _ | refine blk_drew ?_ | refine blk_alloc ?_ _)); refine blk_far ?_ NB120_126.out _; (with_reducible repeat (first | refine blk_drewN ?_ _ | refine blk_drew ?_ | refine blk_alloc ?_ _)); refine blk_far ?_ NB120_126.out _; (with_reducible repeat (first | refine blk_drewN ?_ _ | refine blk_drew ?_ | refine blk_alloc ?_ _)); refine blk_far ?_ NB120_126.out _; (with_reducible repeat (first | refine blk_drewN ?_ _ | refine blk_drew ?_ | refine blk_alloc ?_ _)); exact BK120.out) hb); have n5_ := Aside0.mk (blk_below (g := gb126) (o := .cells #[.int .i64 a0_0, .int .i64 a0_1, .int .i64 a0_2, .int .i64 a0_3] 23 (0, 0)) (by (with_reducible repeat (first | refine blk_drewN ?_ _ | refine blk_drew ?_ | refine blk_alloc ?_ _)); refine blk_put (cs := #[.int .i64 a0_0, .int .i64 a0_1, .int .i64 a0_2, .int .i64 0]) ?_ 3 _ rfl; (with_reducible repeat (first | refine blk_drewN ?_ _ | refine blk_drew ?_ | refine blk_alloc ?_ _)); refine blk_put (cs := #[.int .i64 a0_0, .int .i64 a0_1, .int .i64 0, .int .i64 0]) ?_ 2 _ rfl; (with_reducible repeat (first | refine blk_drewN ?_ _ | refine blk_drew ?_ | refine blk_alloc ?_ _)); refine blk_put (cs := #[.int .i64 a0_0, .int .i64 0, .int .i64 0, .int .i64 0]) ?_ 1 _ rfl; (with_reducible repeat (first | refine blk_drewN ?_ _ | refine blk_drew ?_ | refine blk_alloc ?_ _)); refine blk_put (cs := #[.int .i64 0, .int .i64 0, .int .i64 0, .int .i64 0]) ?_ 0 _ rfl; (with_reducible repeat (first | refine blk_drewN ?_ _ | refine blk_drew ?_ | refine blk_alloc ?_ _)); exact BK126.out) hb); have n6_ := Aside0.mk (below_step (by repeat (first | (with_reducible first | exact HB.out | apply below_alloc | apply pw_below_drewN | apply below_drew1 | refine below_set ?_ GE101.out | refine below_set ?_ GE102.out | refine below_set ?_ GE111.out | refine below_set ?_ GE116.out | refine below_set ?_ GE120.out | refine below_set ?_ GE126.out) | exact HB.out)) hb); clear BK101; clear BK102; clear BK111; clear BK116; clear BK120; clear BK126; clear HB; have BK101 := n0_; have BK102 := n1_; have BK111 := n2_; have BK116 := n3_; have BK120 := n4_; have BK126 := n5_; have HB := n6_; clear n0_ n1_ n2_ n3_ n4_ n5_ n6_; (try clear hb); (try clear hb2); (try clear hk); (try clear hi); have hcz202_0 : w201.cell? ⟨gb126, 0, none⟩ = some (.int .i64 a0_0) := (blk_cell BK126.out 0).trans rfl; have hcz202_1 : w201.cell? ⟨gb126, 1, none⟩ = some (.int .i64 a0_1) := (blk_cell BK126.out 1).trans rfl; have hcz202_2 : w201.cell? ⟨gb126, 2, none⟩ = some (.int .i64 a0_2) := (blk_cell BK126.out 2).trans rfl; have hcz202_3 : w201.cell? ⟨gb126, 3, none⟩ = some (.int .i64 a0_3) := (blk_cell BK126.out 3).trans rfl; have hfz202_0 := blk_frozen BK126.out 0; have hfz202_1 := blk_frozen BK126.out 1; have hfz202_2 := blk_frozen BK126.out 2; have hfz202_3 := blk_frozen BK126.out 3) | (go_at_call 14; (with_reducible refine (pull_Free.calls kj90 a0_0 a0_1 t127 a0_3 t129 t130 t131 _ A144.out).mono ?_); rintro e w203 ⟨rfl, hb⟩; have n0_ := Aside0.mk (blk_below (g := gb101) (o := .cells #[.int .i64 a0_0, .int .i64 a0_1, .int .i64 a0_2, .int .i64 a0_3] 23 (0, 0)) (bkF1 BK101 NB101_126) hb); have n1_ := Aside0.mk (blk_below (g := gb102) (o := .cells #[.int .u8 a1_0, .int .u8 a1_1, .int .u8 a1_2] 62 (0, 0)) (bkF1 BK102 NB102_126) hb); have n2_ := Aside0.mk (blk_below (g := gb111) (o := .cells #[.int .i64 t108, .int .i64 t109] 25 (0, 0)) (bkF1 BK111 NB111_126) hb); have n3_ := Aside0.mk (blk_below (g := gb116) (o := .cells #[.int .i64 (wrap64 (1 + (Int.tmod (wrap64 (a2)) a0_0))), .int .i64 a0_1, .int .i64 a0_2, .int .i64 a0_3] 23 (0, 0)) (bkF1 BK116 NB116_126) hb); have n4_ := Aside0.mk (blk_below (g := gb120) (o := .cells #[.int .i64 t121, .int .i64 a0_1, .int .i64 a0_2, .int .i64 a0_3] 23 (0, 0)) (bkF1 BK120 NB120_126) hb); have n5_ := Aside0.mk (blk_below (g := gb126) (o := .cells #[.int .i64 a0_0, .int .i64 a0_1, .int .i64 t127, .int .i64 a0_3] 23 (0, 0)) (by (with_reducible repeat (first | refine blk_drewN ?_ _ | refine blk_drew ?_ | refine blk_alloc ?_ _)); refine blk_put (cs := #[.int .i64 a0_0, .int .i64 a0_1, .int .i64 a0_2, .int .i64 a0_3]) ?_ 2 _ rfl; (with_reducible repeat (first | refine blk_drewN ?_ _ | refine blk_drew ?_ | refine blk_alloc ?_ _)); exact BK126.out) hb); have n6_ := Aside0.mk (below_step (by repeat (first | (with_reducible first | exact HB.out | apply below_alloc | apply pw_below_drewN | apply below_drew1 | refine below_set ?_ GE101.out | refine below_set ?_ GE102.out | refine below_set ?_ GE111.out | refine below_set ?_ GE116.out | refine below_set ?_ GE120.out | refine below_set ?_ GE126.out) | exact HB.out)) hb); clear BK101; clear BK102; clear BK111; clear BK116; clear BK120; clear BK126; clear HB; have BK101 := n0_; have BK102 := n1_; have BK111 := n2_; have BK116 := n3_; have BK120 := n4_; have BK126 := n5_; have HB := n6_; clear n0_ n1_ n2_ n3_ n4_ n5_ n6_; (try clear hb); (try clear hb2); (try clear hk); (try clear hi)) | (go_at_call 18; (with_reducible refine (dropperlaw04_Awake.calls kj90  t134 _ A187.out).mono ?_); rintro e w204 ⟨rfl, hb⟩; have n0_ := Aside0.mk (bkB BK101 hb); have n1_ := Aside0.mk (bkB BK102 hb); have n2_ := Aside0.mk (bkB BK111 hb); have n3_ := Aside0.mk (bkB BK116 hb); have n4_ := Aside0.mk (bkB BK120 hb); have n5_ := Aside0.mk (bkB BK126 hb); have n6_ := Aside0.mk (below_step (by repeat (first | (with_reducible first | exact HB.out | apply below_alloc | apply pw_below_drewN | apply below_drew1 | refine below_set ?_ GE101.out | refine below_set ?_ GE102.out | refine below_set ?_ GE111.out | refine below_set ?_ GE116.out | refine below_set ?_ GE120.out | refine below_set ?_ GE126.out) | exact HB.out)) hb); clear BK101; clear BK102; clear BK111; clear BK116; clear BK120; clear BK126; clear HB; have BK101 := n0_; have BK102 := n1_; have BK111 := n2_; have BK116 := n3_; have BK120 := n4_; have BK126 := n5_; have HB := n6_; clear n0_ n1_ n2_ n3_ n4_ n5_ n6_; (try clear hb); (try clear hb2); (try clear hk); (try clear hi)))
                        repeat (go_quiet (fail); try go_wp2_with (fail))
                        go_ret
                        exact ⟨by first | rfl | (simp [errW_none, errW_some] <;> rfl) | (simp only [← hji86, ← hji87, ← hji88, ← hji89]; first | rfl | (simp [errW_none, errW_some] <;> rfl)) | (simp [*, errW_none, errW_some] <;> rfl), by repeat (first | (with_reducible first | exact HB.out | apply below_alloc | apply pw_below_drewN | apply below_drew1 | refine below_set ?_ GE101.out | refine below_set ?_ GE102.out | refine below_set ?_ GE111.out | refine below_set ?_ GE116.out | refine below_set ?_ GE120.out | refine below_set ?_ GE126.out) | exact HB.out)⟩
                      rw [if_neg c186] at H
                      have c186b0 : decide (ji89 ≤ t130) = false := decide_eq_false c186
                      clear c186
                      by_cases c205 : ji89 ≤ 0
                      rotate_left
                      · rw [if_neg c205] at H
                        have c205b0 : decide (ji89 ≤ 0) = false := decide_eq_false c205
                        clear c205
                        exact absurd (hT.symm.trans (Option.some.inj H).symm) (by decide)
                      rw [if_pos c205] at H
                      have c205b0 : decide (ji89 ≤ 0) = true := decide_eq_true c205
                      clear c205
                      replace H := Option.bind_eq_some_iff.mp H
                      obtain ⟨t135, A2060, H⟩ := H
                      replace H : (some t135) = some r := H
                      have A206 := Aside0.mk A2060
                      clear A2060
                      clear hT
                      obtain rfl := Option.some.inj H
                      have hnb207 := NB101_102.out
                      have hnc207 := NB102_101.out
                      have hnb208 := NB101_111.out
                      have hnc208 := NB111_101.out
                      have hnb209 := NB101_116.out
                      have hnc209 := NB116_101.out
                      have hnb210 := NB101_120.out
                      have hnc210 := NB120_101.out
                      have hcz211_0 : wc.cell? ⟨gb101, 0, none⟩ = some (.int .i64 a0_0) := (blk_cell BK101.out 0).trans rfl
                      have hcz211_1 : wc.cell? ⟨gb101, 1, none⟩ = some (.int .i64 a0_1) := (blk_cell BK101.out 1).trans rfl
                      have hcz211_2 : wc.cell? ⟨gb101, 2, none⟩ = some (.int .i64 a0_2) := (blk_cell BK101.out 2).trans rfl
                      have hcz211_3 : wc.cell? ⟨gb101, 3, none⟩ = some (.int .i64 a0_3) := (blk_cell BK101.out 3).trans rfl
                      have hfz211_0 := blk_frozen BK101.out 0
                      have hfz211_1 := blk_frozen BK101.out 1
                      have hfz211_2 := blk_frozen BK101.out 2
                      have hfz211_3 := blk_frozen BK101.out 3
                      go_wp2_with (first | ((with_reducible refine gate_dst (N := 24) rfl ?_); refine box_event ?hg (N := 24) ?hd (cs := #[.int .i64 0, .int .i64 0, .int .i64 0, .int .i64 0]) (t := 23) ?hr ?_; (case hd => rfl); (case hg => rfl); (case hr => first | (go_simp; done) | (go_simp; rfl)); intro gb126 hg w212 hbox hb; have n0_ := Aside0.mk (bkB BK101 hb); have n1_ := Aside0.mk (bkB BK102 hb); have n2_ := Aside0.mk (bkB BK111 hb); have n3_ := Aside0.mk (bkB BK116 hb); have n4_ := Aside0.mk (bkB BK120 hb); have n5_ := Aside0.mk (below_step (by repeat (first | (with_reducible first | exact HB.out | apply below_alloc | apply pw_below_drewN | apply below_drew1 | refine below_set ?_ GE101.out | refine below_set ?_ GE102.out | refine below_set ?_ GE111.out | refine below_set ?_ GE116.out | refine below_set ?_ GE120.out) | exact HB.out)) hb); have n6_ := Aside0.mk (hbox); have n7_ := Aside0.mk ((by rw [hg]; exact (below_size (by repeat (first | (with_reducible first | exact HB.out | apply below_alloc | apply pw_below_drewN | apply below_drew1 | refine below_set ?_ GE101.out | refine below_set ?_ GE102.out | refine below_set ?_ GE111.out | refine below_set ?_ GE116.out | refine below_set ?_ GE120.out) | exact HB.out))) : w.heap.size ≤ gb126)); have n8_ := Aside0.mk ((by rw [hg]; exact (below_size (by repeat (first | (with_reducible first | exact HB.out | apply below_alloc | apply pw_below_drewN | apply below_drew1 | refine below_set ?_ GE101.out | refine below_set ?_ GE102.out | refine below_set ?_ GE111.out | refine below_set ?_ GE116.out | refine below_set ?_ GE120.out) | exact HB.out))) : w.heap.size ≤ gb126)); have n9_ := Aside0.mk ((bkL BK101 hg : gb101 ≠ gb126)); have n10_ := Aside0.mk ((bkG BK101 hg : gb126 ≠ gb101)); have n11_ := Aside0.mk ((bkL BK102 hg : gb102 ≠ gb126)); have n12_ := Aside0.mk ((bkG BK102 hg : gb126 ≠ gb102)); have n13_ := Aside0.mk ((bkL BK111 hg : gb111 ≠ gb126)); have n14_ := Aside0.mk ((bkG BK111 hg : gb126 ≠ gb111)); have n15_ := Aside0.mk ((bkL BK116 hg : gb116 ≠ gb126)); have n16_ := Aside0.mk ((bkG BK116 hg : gb126 ≠ gb116)); have n17_ := Aside0.mk ((bkL BK120 hg : gb120 ≠ gb126)); have n18_ := Aside0.mk ((bkG BK120 hg : gb126 ≠ gb120)); clear BK101; clear BK102; clear BK111; clear BK116; clear BK120; clear HB; have BK101 := n0_; have BK102 := n1_; have BK111 := n2_; have BK116 := n3_; have BK120 := n4_; have HB := n5_; have BK126 := n6_; have GW126 := n7_; have GE126 := n8_; have NB101_126 := n9_; have NB126_101 := n10_; have NB102_126 := n11_; have NB126_102 := n12_; have NB111_126 := n13_; have NB126_111 := n14_; have NB116_126 := n15_; have NB126_116 := n16_; have NB120_126 := n17_; have NB126_120 := n18_; clear n0_ n1_ n2_ n3_ n4_ n5_ n6_ n7_ n8_ n9_ n10_ n11_ n12_ n13_ n14_ n15_ n16_ n17_ n18_; clear hb hbox hg; have hnb213 := NB126_101.out; have hnc213 := NB101_126.out; have hnb214 := NB126_102.out; have hnc214 := NB102_126.out; have hnb215 := NB126_111.out; have hnc215 := NB111_126.out; have hnb216 := NB126_116.out; have hnc216 := NB116_126.out; have hnb217 := NB126_120.out; have hnc217 := NB120_126.out; have hcz218_0 : w212.cell? ⟨gb126, 0, none⟩ = some (.int .i64 0) := (blk_cell BK126.out 0).trans rfl; have hcz218_1 : w212.cell? ⟨gb126, 1, none⟩ = some (.int .i64 0) := (blk_cell BK126.out 1).trans rfl; have hcz218_2 : w212.cell? ⟨gb126, 2, none⟩ = some (.int .i64 0) := (blk_cell BK126.out 2).trans rfl; have hcz218_3 : w212.cell? ⟨gb126, 3, none⟩ = some (.int .i64 0) := (blk_cell BK126.out 3).trans rfl; have hfz218_0 := blk_frozen BK126.out 0; have hfz218_1 := blk_frozen BK126.out 1; have hfz218_2 := blk_frozen BK126.out 2; have hfz218_3 := blk_frozen BK126.out 3; have hcz219_0 : w212.cell? ⟨gb101, 0, none⟩ = some (.int .i64 a0_0) := (blk_cell BK101.out 0).trans rfl; have hcz219_1 : w212.cell? ⟨gb101, 1, none⟩ = some (.int .i64 a0_1) := (blk_cell BK101.out 1).trans rfl; have hcz219_2 : w212.cell? ⟨gb101, 2, none⟩ = some (.int .i64 a0_2) := (blk_cell BK101.out 2).trans rfl; have hcz219_3 : w212.cell? ⟨gb101, 3, none⟩ = some (.int .i64 a0_3) := (blk_cell BK101.out 3).trans rfl; have hfz219_0 := blk_frozen BK101.out 0; have hfz219_1 := blk_frozen BK101.out 1; have hfz219_2 := blk_frozen BK101.out 2; have hfz219_3 := blk_frozen BK101.out 3) | (go_at_call 21; (with_reducible refine (pull_Base.calls a0_0 a0_1 a0_2 a0_3 ji88 ji89 t127 t128 _ A142.out).mono ?_); rintro e w220 ⟨rfl, hb⟩; have n0_ := Aside0.mk (blk_below (g := gb101) (o := .cells #[.int .i64 a0_0, .int .i64 a0_1, .int .i64 a0_2, .int .i64 a0_3] 23 (0, 0)) (by (with_reducible repeat (first | refine blk_drewN ?_ _ | refine blk_drew ?_ | refine blk_alloc ?_ _)); refine blk_far ?_ NB101_126.out _; (with_reducible repeat (first | refine blk_drewN ?_ _ | refine blk_drew ?_ | refine blk_alloc ?_ _)); refine blk_far ?_ NB101_126.out _; (with_reducible repeat (first | refine blk_drewN ?_ _ | refine blk_drew ?_ | refine blk_alloc ?_ _)); refine blk_far ?_ NB101_126.out _; (with_reducible repeat (first | refine blk_drewN ?_ _ | refine blk_drew ?_ | refine blk_alloc ?_ _)); refine blk_far ?_ NB101_126.out _; (with_reducible repeat (first | refine blk_drewN ?_ _ | refine blk_drew ?_ | refine blk_alloc ?_ _)); exact BK101.out) hb); have n1_ := Aside0.mk (blk_below (g := gb102) (o := .cells #[.int .u8 a1_0, .int .u8 a1_1, .int .u8 a1_2] 62 (0, 0)) (by (with_reducible repeat (first | refine blk_drewN ?_ _ | refine blk_drew ?_ | refine blk_alloc ?_ _)); refine blk_far ?_ NB102_126.out _; (with_reducible repeat (first | refine blk_drewN ?_ _ | refine blk_drew ?_ | refine blk_alloc ?_ _)); refine blk_far ?_ NB102_126.out _; (with_reducible repeat (first | refine blk_drewN ?_ _ | refine blk_drew ?_ | refine blk_alloc ?_ _)); refine blk_far ?_ NB102_126.out _; (with_reducible repeat (first | refine blk_drewN ?_ _ | refine blk_drew ?_ | refine blk_alloc ?_ _)); refine blk_far ?_ NB102_126.out _; (with_reducible repeat (first | refine blk_drewN ?_ _ | refine blk_drew ?_ | refine blk_alloc ?_ _)); exact BK102.out) hb); have n2_ := Aside0.mk (blk_below (g := gb111) (o := .cells #[.int .i64 t108, .int .i64 t109] 25 (0, 0)) (by (with_reducible repeat (first | refine blk_drewN ?_ _ | refine blk_drew ?_ | refine blk_alloc ?_ _)); refine blk_far ?_ NB111_126.out _; (with_reducible repeat (first | refine blk_drewN ?_ _ | refine blk_drew ?_ | refine blk_alloc ?_ _)); refine blk_far ?_ NB111_126.out _; (with_reducible repeat (first | refine blk_drewN ?_ _ | refine blk_drew ?_ | refine blk_alloc ?_ _)); refine blk_far ?_ NB111_126.out _; (with_reducible repeat (first | refine blk_drewN ?_ _ | refine blk_drew ?_ | refine blk_alloc ?_ _)); refine blk_far ?_ NB111_126.out _; (with_reducible repeat (first | refine blk_drewN ?_ _ | refine blk_drew ?_ | refine blk_alloc ?_ _)); exact BK111.out) hb); have n3_ := Aside0.mk (blk_below (g := gb116) (o := .cells #[.int .i64 (wrap64 (1 + (Int.tmod (wrap64 (a2)) a0_0))), .int .i64 a0_1, .int .i64 a0_2, .int .i64 a0_3] 23 (0, 0)) (by (with_reducible repeat (first | refine blk_drewN ?_ _ | refine blk_drew ?_ | refine blk_alloc ?_ _)); refine blk_far ?_ NB116_126.out _; (with_reducible repeat (first | refine blk_drewN ?_ _ | refine blk_drew ?_ | refine blk_alloc ?_ _)); refine blk_far ?_ NB116_126.out _; (with_reducible repeat (first | refine blk_drewN ?_ _ | refine blk_drew ?_ | refine blk_alloc ?_ _)); refine blk_far ?_ NB116_126.out _; (with_reducible repeat (first | refine blk_drewN ?_ _ | refine blk_drew ?_ | refine blk_alloc ?_ _)); refine blk_far ?_ NB116_126.out _; (with_reducible repeat (first | refine blk_drewN ?_ _ | refine blk_drew ?_ | refine blk_alloc ?_ _)); exact BK116.out) hb); have n4_ := Aside0.mk (blk_below (g := gb120) (o := .cells #[.int .i64 t121, .int .i64 a0_1, .int .i64 a0_2, .int .i64 a0_3] 23 (0, 0)) (by (with_reducible repeat (first | refine blk_drewN ?_ _ | refine blk_drew ?_ | refine blk_alloc ?_ _)); refine blk_far ?_ NB120_126.out _; (with_reducible repeat (first | refine blk_drewN ?_ _ | refine blk_drew ?_ | refine blk_alloc ?_ _)); refine blk_far ?_ NB120_126.out _; (with_reducible repeat (first | refine blk_drewN ?_ _ | refine blk_drew ?_ | refine blk_alloc ?_ _)); refine blk_far ?_ NB120_126.out _; (with_reducible repeat (first | refine blk_drewN ?_ _ | refine blk_drew ?_ | refine blk_alloc ?_ _)); refine blk_far ?_ NB120_126.out _; (with_reducible repeat (first | refine blk_drewN ?_ _ | refine blk_drew ?_ | refine blk_alloc ?_ _)); exact BK120.out) hb); have n5_ := Aside0.mk (blk_below (g := gb126) (o := .cells #[.int .i64 a0_0, .int .i64 a0_1, .int .i64 a0_2, .int .i64 a0_3] 23 (0, 0)) (by (with_reducible repeat (first | refine blk_drewN ?_ _ | refine blk_drew ?_ | refine blk_alloc ?_ _)); refine blk_put (cs := #[.int .i64 a0_0, .int .i64 a0_1, .int .i64 a0_2, .int .i64 0]) ?_ 3 _ rfl; (with_reducible repeat (first | refine blk_drewN ?_ _ | refine blk_drew ?_ | refine blk_alloc ?_ _)); refine blk_put (cs := #[.int .i64 a0_0, .int .i64 a0_1, .int .i64 0, .int .i64 0]) ?_ 2 _ rfl; (with_reducible repeat (first | refine blk_drewN ?_ _ | refine blk_drew ?_ | refine blk_alloc ?_ _)); refine blk_put (cs := #[.int .i64 a0_0, .int .i64 0, .int .i64 0, .int .i64 0]) ?_ 1 _ rfl; (with_reducible repeat (first | refine blk_drewN ?_ _ | refine blk_drew ?_ | refine blk_alloc ?_ _)); refine blk_put (cs := #[.int .i64 0, .int .i64 0, .int .i64 0, .int .i64 0]) ?_ 0 _ rfl; (with_reducible repeat (first | refine blk_drewN ?_ _ | refine blk_drew ?_ | refine blk_alloc ?_ _)); exact BK126.out) hb); have n6_ := Aside0.mk (below_step (by repeat (first | (with_reducible first | exact HB.out | apply below_alloc | apply pw_below_drewN | apply below_drew1 | refine below_set ?_ GE101.out | refine below_set ?_ GE102.out | refine below_set ?_ GE111.out | refine below_set ?_ GE116.out | refine below_set ?_ GE120.out | refine below_set ?_ GE126.out) | exact HB.out)) hb); clear BK101; clear BK102; clear BK111; clear BK116; clear BK120; clear BK126; clear HB; have BK101 := n0_; have BK102 := n1_; have BK111 := n2_; have BK116 := n3_; have BK120 := n4_; have BK126 := n5_; have HB := n6_; clear n0_ n1_ n2_ n3_ n4_ n5_ n6_; (try clear hb); (try clear hb2); (try clear hk); (try clear hi); have hcz221_0 : w220.cell? ⟨gb126, 0, none⟩ = some (.int .i64 a0_0) := (blk_cell BK126.out 0).trans rfl; have hcz221_1 : w220.cell? ⟨gb126, 1, none⟩ = some (.int .i64 a0_1) := (blk_cell BK126.out 1).trans rfl; have hcz221_2 : w220.cell? ⟨gb126, 2, none⟩ = some (.int .i64 a0_2) := (blk_cell BK126.out 2).trans rfl; have hcz221_3 : w220.cell? ⟨gb126, 3, none⟩ = some (.int .i64 a0_3) := (blk_cell BK126.out 3).trans rfl; have hfz221_0 := blk_frozen BK126.out 0; have hfz221_1 := blk_frozen BK126.out 1; have hfz221_2 := blk_frozen BK126.out 2; have hfz221_3 := blk_frozen BK126.out 3) | (go_at_call 14; (with_reducible refine (pull_Free.calls kj90 a0_0 a0_1 t127 a0_3 t129 t130 t131 _ A144.out).mono ?_); rintro e w222 ⟨rfl, hb⟩; have n0_ := Aside0.mk (blk_below (g := gb101) (o := .cells #[.int .i64 a0_0, .int .i64 a0_1, .int .i64 a0_2, .int .i64 a0_3] 23 (0, 0)) (bkF1 BK101 NB101_126) hb); have n1_ := Aside0.mk (blk_below (g := gb102) (o := .cells #[.int .u8 a1_0, .int .u8 a1_1, .int .u8 a1_2] 62 (0, 0)) (bkF1 BK102 NB102_126) hb); have n2_ := Aside0.mk (blk_below (g := gb111) (o := .cells #[.int .i64 t108, .int .i64 t109] 25 (0, 0)) (bkF1 BK111 NB111_126) hb); have n3_ := Aside0.mk (blk_below (g := gb116) (o := .cells #[.int .i64 (wrap64 (1 + (Int.tmod (wrap64 (a2)) a0_0))), .int .i64 a0_1, .int .i64 a0_2, .int .i64 a0_3] 23 (0, 0)) (bkF1 BK116 NB116_126) hb); have n4_ := Aside0.mk (blk_below (g := gb120) (o := .cells #[.int .i64 t121, .int .i64 a0_1, .int .i64 a0_2, .int .i64 a0_3] 23 (0, 0)) (bkF1 BK120 NB120_126) hb); have n5_ := Aside0.mk (blk_below (g := gb126) (o := .cells #[.int .i64 a0_0, .int .i64 a0_1, .int .i64 t127, .int .i64 a0_3] 23 (0, 0)) (by (with_reducible repeat (first | refine blk_drewN ?_ _ | refine blk_drew ?_ | refine blk_alloc ?_ _)); refine blk_put (cs := #[.int .i64 a0_0, .int .i64 a0_1, .int .i64 a0_2, .int .i64 a0_3]) ?_ 2 _ rfl; (with_reducible repeat (first | refine blk_drewN ?_ _ | refine blk_drew ?_ | refine blk_alloc ?_ _)); exact BK126.out) hb); have n6_ := Aside0.mk (below_step (by repeat (first | (with_reducible first | exact HB.out | apply below_alloc | apply pw_below_drewN | apply below_drew1 | refine below_set ?_ GE101.out | refine below_set ?_ GE102.out | refine below_set ?_ GE111.out | refine below_set ?_ GE116.out | refine below_set ?_ GE120.out | refine below_set ?_ GE126.out) | exact HB.out)) hb); clear BK101; clear BK102; clear BK111; clear BK116; clear BK120; clear BK126; clear HB; have BK101 := n0_; have BK102 := n1_; have BK111 := n2_; have BK116 := n3_; have BK120 := n4_; have BK126 := n5_; have HB := n6_; clear n0_ n1_ n2_ n3_ n4_ n5_ n6_; (try clear hb); (try clear hb2); (try clear hk); (try clear hi)) | (go_at_call 18; (with_reducible refine (dropperlaw04_Awake.calls kj90  t135 _ A206.out).mono ?_); rintro e w223 ⟨rfl, hb⟩; have n0_ := Aside0.mk (bkB BK101 hb); have n1_ := Aside0.mk (bkB BK102 hb); have n2_ := Aside0.mk (bkB BK111 hb); have n3_ := Aside0.mk (bkB BK116 hb); have n4_ := Aside0.mk (bkB BK120 hb); have n5_ := Aside0.mk (bkB BK126 hb); have n6_ := Aside0.mk (below_step (by repeat (first | (with_reducible first | exact HB.out | apply below_alloc | apply pw_below_drewN | apply below_drew1 | refine below_set ?_ GE101.out | refine below_set ?_ GE102.out | refine below_set ?_ GE111.out | refine below_set ?_ GE116.out | refine below_set ?_ GE120.out | refine below_set ?_ GE126.out) | exact HB.out)) hb); clear BK101; clear BK102; clear BK111; clear BK116; clear BK120; clear BK126; clear HB; have BK101 := n0_; have BK102 := n1_; have BK111 := n2_; have BK116 := n3_; have BK120 := n4_; have BK126 := n5_; have HB := n6_; clear n0_ n1_ n2_ n3_ n4_ n5_ n6_; (try clear hb); (try clear hb2); (try clear hk); (try clear hi)))
                      repeat (go_quiet (fail); try go_wp2_with (fail))
                      go_ret
                      exact ⟨by first | rfl | (simp [errW_none, errW_some] <;> rfl) | (simp only [← hji86, ← hji87, ← hji88, ← hji89]; first | rfl | (simp [errW_none, errW_some] <;> rfl)) | (simp [*, errW_none, errW_some] <;> rfl), by repeat (first | (with_reducible first | exact HB.out | apply below_alloc | apply pw_below_drewN | apply below_drew1 | refine below_set ?_ GE101.out | refine below_set ?_ GE102.out | refine below_set ?_ GE111.out | refine below_set ?_ GE116.out | refine below_set ?_ GE120.out | refine below_set ?_ GE126.out) | exact HB.out)⟩
end Go.Proofs.Ytiebfmenkpodeaa.G
