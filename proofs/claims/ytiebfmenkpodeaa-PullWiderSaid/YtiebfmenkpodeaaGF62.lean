-- Written by this session's driver (wip/tools/printmore.py) over the kit's print, with hand-written parts.
import Derived.Test.YtiebfmenkpodeaaGBase
import Derived.Test.YtiebfmenkpodeaaGF52
namespace Go.Proofs.Ytiebfmenkpodeaa.G
open Go.RowKit Go.Proofs.YtiebfmenkpodeaaW.PrintWords Go.Proofs.YtiebfmenkpodeaaW.PrintLast Go.Proofs.YtiebfmenkpodeaaW.PrintMore
attribute [local go_sem] max2_int min2_int max_two min_two max_three min_three max_four min_four   -- for this text's walks alone
set_option linter.unusedVariables false
set_option linter.unusedSimpArgs false

/-! ### dropperref04_may: function 62 -/
def dropperref04_may.f (l0 : List Int) (a1 : Int) (a2 : Int) (a3 : Int) (a4 : Int) : Option (Bool) := if a3 < a4 then (if 0 ≤ a4 then (if a4 < (l0.length : Int) then (if 0 ≤ a3 then (if a3 < (l0.length : Int) then ((dropperref04_from.f a1 (wrap64 ((rd l0 a4) - (rd l0 a3))) a2).bind fun t103 => (some t103)) else (none)) else (none)) else (none)) else (none)) else (some false)
set_option maxHeartbeats 8000000 in
set_option maxRecDepth 100000 in
theorem dropperref04_may.calls (A0 : Option Addr) (c0 : Nat) (l0 : List Int) (a1 : Int) (a2 : Int) (a3 : Int) (a4 : Int) (r : Bool) (w : World) (hr0 : Kd.C (Kd.int .i64) w A0 l0.length l0) (hc0 : l0.length ≤ c0) (h : dropperref04_may.f l0 a1 a2 a3 a4 = some r) :
    Calls Try.prog 62 #[.slice A0 l0.length c0, .int .i64 a1, .int .i64 a2, .int .i64 a3, .int .i64 a4] w fun e w' => e = .returned (.bool r) ∧ Drawn0 w w' := by
  have HR0 := Aside0.mk hr0
  have HC0 := Aside0.mk hc0
  clear hr0 hc0
  have H : (if a3 < a4 then (if 0 ≤ a4 then (if a4 < (l0.length : Int) then (if 0 ≤ a3 then (if a3 < (l0.length : Int) then ((dropperref04_from.f a1 (wrap64 ((rd l0 a4) - (rd l0 a3))) a2).bind fun t103 => (some t103)) else (none)) else (none)) else (none)) else (none)) else (some false)) = some r := h
  clear h
  by_cases c6 : a3 < a4
  rotate_left
  · rw [if_neg c6] at H
    have c6b0 : decide (a3 < a4) = false := decide_eq_false c6
    clear c6
    obtain rfl := Option.some.inj H
    go_enter Try.func62, Try.ntmps62
    go_wp2
    repeat (go_quiet (fail); try go_wp2)
    go_ret
    exact ⟨by first | rfl | (simp; done) | (simp [*]; done), by repeat (first | exact Drawn0.refl _ | apply Drawn0.step)⟩

  rw [if_pos c6] at H
  have c6b0 : decide (a3 < a4) = true := decide_eq_true c6
  clear c6
  by_cases c7 : 0 ≤ a4
  rotate_left
  · rw [if_neg c7] at H
    exact absurd H (by simp)
  rw [if_pos c7] at H
  have c7b0 : decide (0 ≤ a4) = true := decide_eq_true c7
  clear c7
  by_cases c8 : a4 < (l0.length : Int)
  rotate_left
  · rw [if_neg c8] at H
    exact absurd H (by simp)
  rw [if_pos c8] at H
  have c8b0 : decide (a4 < (l0.length : Int)) = true := decide_eq_true c8
  clear c8
  by_cases c9 : 0 ≤ a3
  rotate_left
  · rw [if_neg c9] at H
    exact absurd H (by simp)
  rw [if_pos c9] at H
  have c9b0 : decide (0 ≤ a3) = true := decide_eq_true c9
  clear c9
  by_cases c10 : a3 < (l0.length : Int)
  rotate_left
  · rw [if_neg c10] at H
    exact absurd H (by simp)
  rw [if_pos c10] at H
  have c10b0 : decide (a3 < (l0.length : Int)) = true := decide_eq_true c10
  clear c10
  replace H := Option.bind_eq_some_iff.mp H
  obtain ⟨t103, A110, H⟩ := H
  replace H : (some t103) = some r := H
  have A11 := Aside0.mk A110
  clear A110
  obtain rfl := Option.some.inj H
  have p101 : 0 ≤ (a4 : Int) := of_decide_eq_true (by first | (with_reducible assumption) | assumption)
  have q101 : a4 < (l0.length : Int) := of_decide_eq_true (by first | (with_reducible assumption) | assumption)
  obtain ⟨ad101, e101, hx101_0⟩ := Kd.at_int HR0.out a4 p101 q101
  cases e101
  replace p101 := eq_true p101
  replace q101 := eq_true q101
  have p102 : 0 ≤ (a3 : Int) := of_decide_eq_true (by first | (with_reducible assumption) | assumption)
  have q102 : a3 < (l0.length : Int) := of_decide_eq_true (by first | (with_reducible assumption) | assumption)
  obtain ⟨ad102, e102, hx102_0⟩ := Kd.at_int HR0.out a3 p102 q102
  obtain rfl : ad101 = ad102 := (by injection e102)
  replace p102 := eq_true p102
  replace q102 := eq_true q102
  go_enter Try.func62, Try.ntmps62
  go_wp2_with (first | (go_at_call 52; (with_reducible refine (dropperref04_from.calls a1 (wrap64 ((rd l0 a4) - (rd l0 a3))) a2 t103 _ A11.out).mono ?_); rintro e w' ⟨rfl, ⟨nd, rfl⟩⟩; (try first | exact ⟨rfl, _, World.drewN_drewN _ _ _⟩ | exact ⟨rfl, _, Eq.trans (World.drewN_drewN _ _ _) (congrArg (World.drewN _) (Nat.add_assoc _ _ _))⟩)))
  repeat (go_quiet (first | (go_at_call 52; (with_reducible refine (dropperref04_from.calls a1 (wrap64 ((rd l0 a4) - (rd l0 a3))) a2 t103 _ A11.out).mono ?_); rintro e w' ⟨rfl, ⟨nd, rfl⟩⟩; (try first | exact ⟨rfl, _, World.drewN_drewN _ _ _⟩ | exact ⟨rfl, _, Eq.trans (World.drewN_drewN _ _ _) (congrArg (World.drewN _) (Nat.add_assoc _ _ _))⟩))); try go_wp2_with (first | (go_at_call 52; (with_reducible refine (dropperref04_from.calls a1 (wrap64 ((rd l0 a4) - (rd l0 a3))) a2 t103 _ A11.out).mono ?_); rintro e w' ⟨rfl, ⟨nd, rfl⟩⟩; (try first | exact ⟨rfl, _, World.drewN_drewN _ _ _⟩ | exact ⟨rfl, _, Eq.trans (World.drewN_drewN _ _ _) (congrArg (World.drewN _) (Nat.add_assoc _ _ _))⟩))))
  go_ret
  exact ⟨by first | rfl | (simp; done) | (simp [*]; done), by repeat (first | exact Drawn0.refl _ | apply Drawn0.step)⟩
end Go.Proofs.Ytiebfmenkpodeaa.G
