-- Written by this session's driver (wip/tools/printmore.py) over the kit's print, with hand-written parts.
import Derived.Test.YtiapmkndgalgnaaGBase
namespace Go.Proofs.Ytiapmkndgalgnaa.G
open Go.RowKit Go.Proofs.YtiapmkndgalgnaaW.PrintWords Go.Proofs.YtiapmkndgalgnaaW.PrintLast Go.Proofs.YtiapmkndgalgnaaW.PrintMore
attribute [local go_sem] max2_int min2_int max_two min_two max_three min_three max_four min_four   -- for this text's walks alone
set_option linter.unusedVariables false
set_option linter.unusedSimpArgs false

/-! ### dropperref03_through: function 74 -/
def dropperref03_through.l0 : Nat → List (S73) → Int → Int → Int → Int → Int → Option (Bool)
 | 0, _, _, _, _, _, _ => none
 | k + 1, x0, x1, x2, x3, x4, x11 => if x11 < (x0.length : Int) then (if 0 ≤ x11 then (if (wrap64 ((wrap64 (x2 * (wrap64 (x3 - x1)))) + (wrap64 ((wrap64 (x4 - x2)) * (wrap64 (((rd_T73 x0 x11).f0) - x1)))))) < (wrap64 (((rd_T73 x0 x11).f1) * (wrap64 (x3 - x1)))) then (some false) else (if (wrap64 ((wrap64 (x2 * (wrap64 (x3 - x1)))) + (wrap64 ((wrap64 (x4 - x2)) * (wrap64 (((rd_T73 x0 x11).f0) - x1)))))) > (wrap64 (((rd_T73 x0 x11).f2) * (wrap64 (x3 - x1)))) then (some false) else (dropperref03_through.l0 k x0 x1 x2 x3 x4 (wrap64 (x11 + 1))))) else (none)) else (some true)
def dropperref03_through.f (k : Nat) (l0 : List (S73)) (a1 : Int) (a2 : Int) (a3 : Int) (a4 : Int) : Option (Bool) := dropperref03_through.l0 k l0 a1 a2 a3 a4 0
theorem dropperref03_through.mono_l : ∀ k, (∀ y0 y1 y2 y3 y4 y5, LeO (dropperref03_through.l0 k y0 y1 y2 y3 y4 y5) (dropperref03_through.l0 (k + 1) y0 y1 y2 y3 y4 y5))
 | 0 => fun _ _ _ _ _ _ r h => by simp [dropperref03_through.l0] at h
 | k + 1 => by
  have ih0 := dropperref03_through.mono_l k
  ·intro y0 y1 y2 y3 y4 y5
   unfold dropperref03_through.l0
   repeat' first
   | (with_reducible exact ih0 _ _ _ _ _ _)
   | (with_reducible exact LeO.refl _)
   | (with_reducible exact LeO.none _)
   | (with_reducible refine LeO.ite ?_ ?_)
   | (with_reducible refine LeO.bind ?_ (fun _ => ?_))
   | exact ih0 _ _ _ _ _ _
   | exact LeO.none _
   | refine LeO.ite ?_ ?_
   | refine LeO.bind ?_ (fun _ => ?_)
theorem dropperref03_through.mono : ∀ a0 a1 a2 a3 a4 k, LeO (dropperref03_through.f k a0 a1 a2 a3 a4) (dropperref03_through.f (k + 1) a0 a1 a2 a3 a4) := by
 intro a0 a1 a2 a3 a4 k
 have ih0 := dropperref03_through.mono_l k
 unfold dropperref03_through.f
 repeat' first
   | (with_reducible exact ih0 _ _ _ _ _ _)
   | (with_reducible exact LeO.refl _)
   | (with_reducible exact LeO.none _)
   | (with_reducible refine LeO.ite ?_ ?_)
   | (with_reducible refine LeO.bind ?_ (fun _ => ?_))
   | exact ih0 _ _ _ _ _ _
   | exact LeO.none _
   | refine LeO.ite ?_ ?_
   | refine LeO.bind ?_ (fun _ => ?_)
set_option maxHeartbeats 8000000 in
set_option maxRecDepth 100000 in
theorem dropperref03_through.calls (k : Nat) (A0 : Option Addr) (c0 : Nat) (l0 : List (S73)) (a1 : Int) (a2 : Int) (a3 : Int) (a4 : Int) (r : Bool) (w : World) (hr0 : Kd.C k73 w A0 l0.length l0) (hc0 : l0.length ≤ c0) (h : dropperref03_through.f k l0 a1 a2 a3 a4 = some r) :
  Calls Try.prog 74 #[.slice A0 l0.length c0, .int .i64 a1, .int .i64 a2, .int .i64 a3, .int .i64 a4] w fun e w' => e = .returned (.bool r) ∧ Drawn0 w w' := by
 have HR0 := A_ hr0
 have HC0 := A_ hc0
 clear hr0 hc0
 have H : (dropperref03_through.l0 k l0 a1 a2 a3 a4 0) = some r := h
 clear h
 have H' := A_ H
 clear H
 go_enter Try.func74, Try.ntmps74
 go_wp2
 go_loopg [11] k (fun kq v11 w' => ∃ (x11_1 : Int), v11 = .int .i64 x11_1 ∧ Aside0 (dropperref03_through.l0 kq l0 a1 a2 a3 a4 x11_1 = some r) ∧ Aside0 (kq ≤ k) ∧ Drawn0 w w')
 case atStart => exact ⟨(0), eS, H', ⟨Nat.le_refl _⟩, by repeat (first | exact Drawn0.refl _ | apply Drawn0.step)⟩
 case round =>
  clear H'
  try clear p2
  obtain ⟨x11_1, rfl, HA, HK1, ⟨m1, rfl⟩⟩ := hrel
  cases gk with
  | zero => exact absurd HA.out (by simp [dropperref03_through.l0])
  | succ k1 =>
   have H := HA.out
   clear HA
   simp only [dropperref03_through.l0] at H
   by_cases c6 : x11_1 < (l0.length : Int)
   rotate_left
   ·rw [if_neg c6] at H
    have c6b0 : decide (x11_1 < (l0.length : Int)) = false := decide_eq_false c6
    clear c6
    obtain rfl := Option.some.inj H
    go_wp2
    go_ret
    exact ⟨by first | rfl | (simp; done) | (simp [*]; done), by repeat (first | exact Drawn0.refl _ | apply Drawn0.step)⟩

   rw [if_pos c6] at H
   have c6b0 : decide (x11_1 < (l0.length : Int)) = true := decide_eq_true c6
   clear c6
   by_cases c7 : 0 ≤ x11_1
   rotate_left
   ·rw [if_neg c7] at H
    exact absurd H (by simp)
   rw [if_pos c7] at H
   have c7b0 : decide (0 ≤ x11_1) = true := decide_eq_true c7
   clear c7
   by_cases c8 : (wrap64 ((wrap64 (a2 * (wrap64 (a3 - a1)))) + (wrap64 ((wrap64 (a4 - a2)) * (wrap64 (((rd_T73 l0 x11_1).f0) - a1)))))) < (wrap64 (((rd_T73 l0 x11_1).f1) * (wrap64 (a3 - a1))))
   ·rw [if_pos c8] at H
    have c8b0 : decide ((wrap64 ((wrap64 (a2 * (wrap64 (a3 - a1)))) + (wrap64 ((wrap64 (a4 - a2)) * (wrap64 (((rd_T73 l0 x11_1).f0) - a1)))))) < (wrap64 (((rd_T73 l0 x11_1).f1) * (wrap64 (a3 - a1))))) = true := decide_eq_true c8
    clear c8
    obtain rfl := Option.some.inj H
    have p101 : 0 ≤ (x11_1 : Int) := oD
    have q101 : x11_1 < (l0.length : Int) := oD
    obtain ⟨ad101, e101, hx101_0, hx101_1, hx101_2⟩ := at_T73 HR0.out x11_1 p101 q101
    cases e101
    replace p101 := eq_true p101
    replace q101 := eq_true q101
    have p102 : 0 ≤ (x11_1 : Int) := oD
    have q102 : x11_1 < (l0.length : Int) := oD
    obtain ⟨ad102, e102, hx102_0, hx102_1, hx102_2⟩ := at_T73 HR0.out x11_1 p102 q102
    obtain rfl : ad101 = ad102 := (by injection e102)
    replace p102 := eq_true p102
    replace q102 := eq_true q102
    go_wp2
    go_ret
    exact ⟨by first | rfl | (simp; done) | (simp [*]; done), by repeat (first | exact Drawn0.refl _ | apply Drawn0.step)⟩
   rw [if_neg c8] at H
   have c8b0 : decide ((wrap64 ((wrap64 (a2 * (wrap64 (a3 - a1)))) + (wrap64 ((wrap64 (a4 - a2)) * (wrap64 (((rd_T73 l0 x11_1).f0) - a1)))))) < (wrap64 (((rd_T73 l0 x11_1).f1) * (wrap64 (a3 - a1))))) = false := decide_eq_false c8
   clear c8
   by_cases c9 : (wrap64 ((wrap64 (a2 * (wrap64 (a3 - a1)))) + (wrap64 ((wrap64 (a4 - a2)) * (wrap64 (((rd_T73 l0 x11_1).f0) - a1)))))) > (wrap64 (((rd_T73 l0 x11_1).f2) * (wrap64 (a3 - a1))))
   ·rw [if_pos c9] at H
    have c9b0 : decide ((wrap64 (((rd_T73 l0 x11_1).f2) * (wrap64 (a3 - a1)))) < (wrap64 ((wrap64 (a2 * (wrap64 (a3 - a1)))) + (wrap64 ((wrap64 (a4 - a2)) * (wrap64 (((rd_T73 l0 x11_1).f0) - a1))))))) = true := decide_eq_true c9
    clear c9
    obtain rfl := Option.some.inj H
    have p101 : 0 ≤ (x11_1 : Int) := oD
    have q101 : x11_1 < (l0.length : Int) := oD
    obtain ⟨ad101, e101, hx101_0, hx101_1, hx101_2⟩ := at_T73 HR0.out x11_1 p101 q101
    cases e101
    replace p101 := eq_true p101
    replace q101 := eq_true q101
    have p102 : 0 ≤ (x11_1 : Int) := oD
    have q102 : x11_1 < (l0.length : Int) := oD
    obtain ⟨ad102, e102, hx102_0, hx102_1, hx102_2⟩ := at_T73 HR0.out x11_1 p102 q102
    obtain rfl : ad101 = ad102 := (by injection e102)
    replace p102 := eq_true p102
    replace q102 := eq_true q102
    have p103 : 0 ≤ (x11_1 : Int) := oD
    have q103 : x11_1 < (l0.length : Int) := oD
    obtain ⟨ad103, e103, hx103_0, hx103_1, hx103_2⟩ := at_T73 HR0.out x11_1 p103 q103
    obtain rfl : ad101 = ad103 := (by injection e103)
    replace p103 := eq_true p103
    replace q103 := eq_true q103
    go_wp2
    go_ret
    exact ⟨by first | rfl | (simp; done) | (simp [*]; done), by repeat (first | exact Drawn0.refl _ | apply Drawn0.step)⟩
   rw [if_neg c9] at H
   have c9b0 : decide ((wrap64 (((rd_T73 l0 x11_1).f2) * (wrap64 (a3 - a1)))) < (wrap64 ((wrap64 (a2 * (wrap64 (a3 - a1)))) + (wrap64 ((wrap64 (a4 - a2)) * (wrap64 (((rd_T73 l0 x11_1).f0) - a1))))))) = false := decide_eq_false c9
   clear c9
   have H' := A_ H
   clear H
   have p101 : 0 ≤ (x11_1 : Int) := oD
   have q101 : x11_1 < (l0.length : Int) := oD
   obtain ⟨ad101, e101, hx101_0, hx101_1, hx101_2⟩ := at_T73 HR0.out x11_1 p101 q101
   cases e101
   replace p101 := eq_true p101
   replace q101 := eq_true q101
   have p102 : 0 ≤ (x11_1 : Int) := oD
   have q102 : x11_1 < (l0.length : Int) := oD
   obtain ⟨ad102, e102, hx102_0, hx102_1, hx102_2⟩ := at_T73 HR0.out x11_1 p102 q102
   obtain rfl : ad101 = ad102 := (by injection e102)
   replace p102 := eq_true p102
   replace q102 := eq_true q102
   have p103 : 0 ≤ (x11_1 : Int) := oD
   have q103 : x11_1 < (l0.length : Int) := oD
   obtain ⟨ad103, e103, hx103_0, hx103_1, hx103_2⟩ := at_T73 HR0.out x11_1 p103 q103
   obtain rfl : ad101 = ad103 := (by injection e103)
   replace p103 := eq_true p103
   replace q103 := eq_true q103
   go_wp2
   go_roundg k1
   case measure => have := HK1.out; omega
   case rel => exact ⟨(wrap64 (x11_1 + 1)), eS, H', ⟨by have := HK1.out; omega⟩, by repeat (first | exact Drawn0.refl _ | apply Drawn0.step)⟩
end Go.Proofs.Ytiapmkndgalgnaa.G
