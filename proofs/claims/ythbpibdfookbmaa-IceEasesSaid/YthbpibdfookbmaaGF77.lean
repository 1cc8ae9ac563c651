-- Written by this session's driver (wip/tools/printmore.py) over the kit's print, with hand-written parts.
import Derived.Test.YthbpibdfookbmaaGBase
import Derived.Test.YthbpibdfookbmaaGF78
namespace Go.Proofs.Ythbpibdfookbmaa.G
open Go.RowKit Go.Proofs.YthbpibdfookbmaaW.PrintWords Go.Proofs.YthbpibdfookbmaaW.PrintLast Go.Proofs.YthbpibdfookbmaaW.PrintMore
attribute [local go_sem] max2_int min2_int max_two min_two max_three min_three max_four min_four   -- for this text's walks alone
set_option linter.unusedVariables false
set_option linter.unusedSimpArgs false

/-! ### ice_Rota_1: function 77 -/
def ice_Rota_1.f (a0 : Int) (a1 : Int) (l2_0 : List Int) : Option (Int) := if 0 ≤ a0 then (if a0 < (l2_0.length : Int) then (if 0 ≤ a1 then (if a1 < (l2_0.length : Int) then ((cmp_Compare_int.f (rd l2_0 a0) (rd l2_0 a1)).bind fun t103 => (some t103)) else (none)) else (none)) else (none)) else (none)
set_option maxHeartbeats 8000000 in
set_option maxRecDepth 100000 in
theorem ice_Rota_1.calls (a0 : Int) (a1 : Int) (b2 : Nat) (A2_0 : Option Addr) (c2_0 : Nat) (l2_0 : List Int) (r : Int) (w : World) (hbk2 : w.heap[b2]? = some (.cells #[.slice A2_0 l2_0.length c2_0] 22 (0, 0))) (hr2_0 : Kd.C (Kd.int .i64) w A2_0 l2_0.length l2_0) (hc2_0 : l2_0.length ≤ c2_0) (h : ice_Rota_1.f a0 a1 l2_0 = some r) :
    Calls Try.prog 77 #[.int .i64 a0, .int .i64 a1, .pointer (some ⟨b2, 0, none⟩)] w fun e w' => e = .returned (.int .i64 r) ∧ Drawn0 w w' := by
  have HR2_0 := Aside0.mk hr2_0
  have HC2_0 := Aside0.mk hc2_0
  clear hr2_0 hc2_0
  have BK2 := Aside0.mk hbk2
  clear hbk2
  have H : (if 0 ≤ a0 then (if a0 < (l2_0.length : Int) then (if 0 ≤ a1 then (if a1 < (l2_0.length : Int) then ((cmp_Compare_int.f (rd l2_0 a0) (rd l2_0 a1)).bind fun t103 => (some t103)) else (none)) else (none)) else (none)) else (none)) = some r := h
  clear h
  by_cases c4 : 0 ≤ a0
  rotate_left
  · rw [if_neg c4] at H
    exact absurd H (by simp)

  rw [if_pos c4] at H
  have c4b0 : decide (0 ≤ a0) = true := decide_eq_true c4
  clear c4
  by_cases c5 : a0 < (l2_0.length : Int)
  rotate_left
  · rw [if_neg c5] at H
    exact absurd H (by simp)
  rw [if_pos c5] at H
  have c5b0 : decide (a0 < (l2_0.length : Int)) = true := decide_eq_true c5
  clear c5
  by_cases c6 : 0 ≤ a1
  rotate_left
  · rw [if_neg c6] at H
    exact absurd H (by simp)
  rw [if_pos c6] at H
  have c6b0 : decide (0 ≤ a1) = true := decide_eq_true c6
  clear c6
  by_cases c7 : a1 < (l2_0.length : Int)
  rotate_left
  · rw [if_neg c7] at H
    exact absurd H (by simp)
  rw [if_pos c7] at H
  have c7b0 : decide (a1 < (l2_0.length : Int)) = true := decide_eq_true c7
  clear c7
  replace H := Option.bind_eq_some_iff.mp H
  obtain ⟨t103, A80, H⟩ := H
  replace H : (some t103) = some r := H
  have A8 := Aside0.mk A80
  clear A80
  obtain rfl := Option.some.inj H
  have hcz9_0 : w.cell? ⟨b2, 0, none⟩ = some (.slice A2_0 l2_0.length c2_0) := (blk_cell BK2.out 0).trans rfl
  have hfz9_0 := blk_frozen BK2.out 0
  have p101 : 0 ≤ (a0 : Int) := of_decide_eq_true (by first | (with_reducible assumption) | assumption)
  have q101 : a0 < (l2_0.length : Int) := of_decide_eq_true (by first | (with_reducible assumption) | assumption)
  obtain ⟨ad101, e101, hx101_0⟩ := Kd.at_int HR2_0.out a0 p101 q101
  cases e101
  replace p101 := eq_true p101
  replace q101 := eq_true q101
  have p102 : 0 ≤ (a1 : Int) := of_decide_eq_true (by first | (with_reducible assumption) | assumption)
  have q102 : a1 < (l2_0.length : Int) := of_decide_eq_true (by first | (with_reducible assumption) | assumption)
  obtain ⟨ad102, e102, hx102_0⟩ := Kd.at_int HR2_0.out a1 p102 q102
  obtain rfl : ad101 = ad102 := (by injection e102)
  replace p102 := eq_true p102
  replace q102 := eq_true q102
  go_enter Try.func77, Try.ntmps77
  go_wp2_with (first | (go_at_call 78; (with_reducible refine (cmp_Compare_int.calls (rd l2_0 a0) (rd l2_0 a1) t103 _ A8.out).mono ?_); rintro e w' ⟨rfl, ⟨nd, rfl⟩⟩; (try first | exact ⟨rfl, _, World.drewN_drewN _ _ _⟩ | exact ⟨rfl, _, Eq.trans (World.drewN_drewN _ _ _) (congrArg (World.drewN _) (Nat.add_assoc _ _ _))⟩)))
  repeat (go_quiet (first | (go_at_call 78; (with_reducible refine (cmp_Compare_int.calls (rd l2_0 a0) (rd l2_0 a1) t103 _ A8.out).mono ?_); rintro e w' ⟨rfl, ⟨nd, rfl⟩⟩; (try first | exact ⟨rfl, _, World.drewN_drewN _ _ _⟩ | exact ⟨rfl, _, Eq.trans (World.drewN_drewN _ _ _) (congrArg (World.drewN _) (Nat.add_assoc _ _ _))⟩))); try go_wp2_with (first | (go_at_call 78; (with_reducible refine (cmp_Compare_int.calls (rd l2_0 a0) (rd l2_0 a1) t103 _ A8.out).mono ?_); rintro e w' ⟨rfl, ⟨nd, rfl⟩⟩; (try first | exact ⟨rfl, _, World.drewN_drewN _ _ _⟩ | exact ⟨rfl, _, Eq.trans (World.drewN_drewN _ _ _) (congrArg (World.drewN _) (Nat.add_assoc _ _ _))⟩))))
  go_ret
  exact ⟨by first | rfl | (simp; done) | (simp [*]; done), by repeat (first | exact Drawn0.refl _ | apply Drawn0.step)⟩
end Go.Proofs.Ythbpibdfookbmaa.G
