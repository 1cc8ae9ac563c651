-- Written by this session's driver (wip/tools/printmore.py) over the kit's print, with hand-written parts.
import Derived.Test.YtciepmpadcpkbaaGBase
namespace Go.Proofs.Ytciepmpadcpkbaa.G
open Go.RowKit Go.Proofs.YtciepmpadcpkbaaW.PrintWords Go.Proofs.YtciepmpadcpkbaaW.PrintLast Go.Proofs.YtciepmpadcpkbaaW.PrintMore
attribute [local go_sem] max2_int min2_int max_two min_two max_three min_three max_four min_four   -- for this text's walks alone
set_option linter.unusedVariables false
set_option linter.unusedSimpArgs false

/-! ### dropperref02_steps: function 71 -/
def dropperref02_steps.l0 : Nat → List (S72) → Int → Int → Int → Int → Int → Int → Option (Int)
 | 0, _, _, _, _, _, _, _ => none
 | k + 1, x0, x1, x2, x3, x4, x11, x12 => if x12 < (mx x3 x4) then (if 0 ≤ (wrap64 (x12 + 1)) then (if (wrap64 (x12 + 1)) < (x0.length : Int) then (if 0 ≤ x12 then (if x12 < (x0.length : Int) then (if x2 = 0 then (none) else (dropperref02_steps.l0 k x0 x1 x2 x3 x4 (wrap64 (x11 + (wrap64 (Int.tdiv (wrap64 (x1 * (wrap64 (((rd_T72 x0 (wrap64 (x12 + 1))).f0) - ((rd_T72 x0 x12).f0))))) x2)))) (wrap64 (x12 + 1)))) else (none)) else (none)) else (none)) else (none)) else (some x11)
def dropperref02_steps.f (k : Nat) (l0 : List (S72)) (a1 : Int) (a2 : Int) (a3 : Int) (a4 : Int) : Option (Int) := dropperref02_steps.l0 k l0 a1 a2 a3 a4 0 (mn a3 a4)
theorem dropperref02_steps.mono_l : ∀ k, (∀ y0 y1 y2 y3 y4 y5 y6, LeO (dropperref02_steps.l0 k y0 y1 y2 y3 y4 y5 y6) (dropperref02_steps.l0 (k + 1) y0 y1 y2 y3 y4 y5 y6))
 | 0 => fun _ _ _ _ _ _ _ r h => by simp [dropperref02_steps.l0] at h
 | k + 1 => by
  have ih0 := dropperref02_steps.mono_l k
  ·intro y0 y1 y2 y3 y4 y5 y6
   unfold dropperref02_steps.l0
   repeat' first
   | (with_reducible exact ih0 _ _ _ _ _ _ _)
   | (with_reducible exact LeO.refl _)
   | (with_reducible exact LeO.none _)
   | (with_reducible refine LeO.ite ?_ ?_)
   | (with_reducible refine LeO.bind ?_ (fun _ => ?_))
   | exact ih0 _ _ _ _ _ _ _
   | exact LeO.none _
   | refine LeO.ite ?_ ?_
   | refine LeO.bind ?_ (fun _ => ?_)
theorem dropperref02_steps.mono : ∀ a0 a1 a2 a3 a4 k, LeO (dropperref02_steps.f k a0 a1 a2 a3 a4) (dropperref02_steps.f (k + 1) a0 a1 a2 a3 a4) := by
 intro a0 a1 a2 a3 a4 k
 have ih0 := dropperref02_steps.mono_l k
 unfold dropperref02_steps.f
 repeat' first
   | (with_reducible exact ih0 _ _ _ _ _ _ _)
   | (with_reducible exact LeO.refl _)
   | (with_reducible exact LeO.none _)
   | (with_reducible refine LeO.ite ?_ ?_)
   | (with_reducible refine LeO.bind ?_ (fun _ => ?_))
   | exact ih0 _ _ _ _ _ _ _
   | exact LeO.none _
   | refine LeO.ite ?_ ?_
   | refine LeO.bind ?_ (fun _ => ?_)
set_option maxHeartbeats 8000000 in
set_option maxRecDepth 100000 in
theorem dropperref02_steps.calls (k : Nat) (A0 : Option Addr) (c0 : Nat) (l0 : List (S72)) (a1 : Int) (a2 : Int) (a3 : Int) (a4 : Int) (r : Int) (w : World) (hr0 : Kd.C k72 w A0 l0.length l0) (hc0 : l0.length ≤ c0) (h : dropperref02_steps.f k l0 a1 a2 a3 a4 = some r) :
  Calls Try.prog 71 #[.slice A0 l0.length c0, .int .i64 a1, .int .i64 a2, .int .i64 a3, .int .i64 a4] w fun e w' => e = .returned (.int .i64 r) ∧ Below w.heap.size w w' := by
 have HR0 := A_ hr0
 have HC0 := A_ hc0
 clear hr0 hc0
 have HB := A_ (Below.refl w.heap.size w)
 have H : (dropperref02_steps.l0 k l0 a1 a2 a3 a4 0 (mn a3 a4)) = some r := h
 clear h
 obtain ⟨ji6, hji6⟩ : ∃ j_ : Int, (mn a3 a4) = j_ := ⟨_, rfl⟩
 replace H : (dropperref02_steps.l0 k l0 a1 a2 a3 a4 0 ji6) = some r := by first | (rw [hji6] at H; exact H) | (simp only [hji6] at H ⊢; exact H)
 have hji6_ : (if a4 < a3 then a4 else a3) = ji6 := hji6
 have H' := A_ H
 clear H
 go_enter Try.func71, Try.ntmps71
 go_wp2
 repeat (go_quiet (fail); try go_wp2)
 go_loopg [11, 12] k (fun kq v11 v12 w' => ∃ (x11_1 : Int) (x12_1 : Int), v11 = .int .i64 x11_1 ∧ v12 = .int .i64 x12_1 ∧ Aside0 (dropperref02_steps.l0 kq l0 a1 a2 a3 a4 x11_1 x12_1 = some r) ∧ Aside0 (kq ≤ k) ∧ Aside0 (Below w.heap.size w w'))
 case atStart => exact ⟨(0), (ji6), (by first | rfl | (simp; done) | (simp [*]; done)), (by first | rfl | (simp; done) | (simp only [← hji6] <;> (first | rfl | simp)) | (simp [*]; done)), H', ⟨Nat.le_refl _⟩, ⟨by repeat (first | (with_reducible first | exact HB.out | apply below_alloc | apply pw_below_drewN | apply below_drew1) | exact HB.out)⟩⟩
 case round =>
  clear H'
  try clear p2
  obtain ⟨x11_1, x12_1, rfl, rfl, HA, HK1, HB⟩ := hrel
  cases gk with
  | zero => exact absurd HA.out (by simp [dropperref02_steps.l0])
  | succ k1 =>
   have H := HA.out
   clear HA
   simp only [dropperref02_steps.l0] at H
   obtain ⟨ji7, hji7⟩ : ∃ j_ : Int, (mx a3 a4) = j_ := ⟨_, rfl⟩
   replace H : (if x12_1 < (ji7) then (if 0 ≤ (wrap64 (x12_1 + 1)) then (if (wrap64 (x12_1 + 1)) < (l0.length : Int) then (if 0 ≤ x12_1 then (if x12_1 < (l0.length : Int) then (if a2 = 0 then (none) else (dropperref02_steps.l0 k1 l0 a1 a2 a3 a4 (wrap64 (x11_1 + (wrap64 (Int.tdiv (wrap64 (a1 * (wrap64 (((rd_T72 l0 (wrap64 (x12_1 + 1))).f0) - ((rd_T72 l0 x12_1).f0))))) a2)))) (wrap64 (x12_1 + 1)))) else (none)) else (none)) else (none)) else (none)) else (some x11_1)) = some r := by first | (rw [hji7] at H; exact H) | (simp only [hji7] at H ⊢; exact H)
   have hji7_ : (if a3 < a4 then a4 else a3) = ji7 := hji7
   by_cases c8 : x12_1 < (ji7)
   rotate_left
   ·rw [if_neg c8] at H
    have c8b0 : decide (x12_1 < (ji7)) = false := decide_eq_false c8
    clear c8
    obtain rfl := Option.some.inj H
    go_wp2
    repeat (go_quiet (fail); try go_wp2)
    go_ret
    exact ⟨by first | rfl | (simp [errW_none, errW_some] <;> rfl) | (simp only [← hji6, ← hji7]; first | rfl | (simp [errW_none, errW_some] <;> rfl)) | (simp [*, errW_none, errW_some] <;> rfl), by repeat (first | (with_reducible first | exact HB.out | apply below_alloc | apply pw_below_drewN | apply below_drew1) | exact HB.out)⟩

   rw [if_pos c8] at H
   have c8b0 : decide (x12_1 < (ji7)) = true := decide_eq_true c8
   clear c8
   obtain ⟨ji9, hji9⟩ : ∃ j_ : Int, (wrap64 (x12_1 + 1)) = j_ := ⟨_, rfl⟩
   replace H : (if 0 ≤ (ji9) then (if (ji9) < (l0.length : Int) then (if 0 ≤ x12_1 then (if x12_1 < (l0.length : Int) then (if a2 = 0 then (none) else (dropperref02_steps.l0 k1 l0 a1 a2 a3 a4 (wrap64 (x11_1 + (wrap64 (Int.tdiv (wrap64 (a1 * (wrap64 (((rd_T72 l0 (ji9)).f0) - ((rd_T72 l0 x12_1).f0))))) a2)))) ji9)) else (none)) else (none)) else (none)) else (none)) = some r := by first | (rw [hji9] at H; exact H) | (simp only [hji9] at H ⊢; exact H)
   have hji9w : (IntKind.i64.wrap (x12_1 + 1)) = ji9 := (i64_w _).trans hji9
   by_cases c10 : 0 ≤ (ji9)
   rotate_left
   ·rw [if_neg c10] at H
    exact absurd H (by simp)
   rw [if_pos c10] at H
   have c10b0 : decide (0 ≤ (ji9)) = true := decide_eq_true c10
   clear c10
   by_cases c11 : (ji9) < (l0.length : Int)
   rotate_left
   ·rw [if_neg c11] at H
    exact absurd H (by simp)
   rw [if_pos c11] at H
   have c11b0 : decide ((ji9) < (l0.length : Int)) = true := decide_eq_true c11
   clear c11
   by_cases c12 : 0 ≤ x12_1
   rotate_left
   ·rw [if_neg c12] at H
    exact absurd H (by simp)
   rw [if_pos c12] at H
   have c12b0 : decide (0 ≤ x12_1) = true := decide_eq_true c12
   clear c12
   by_cases c13 : x12_1 < (l0.length : Int)
   rotate_left
   ·rw [if_neg c13] at H
    exact absurd H (by simp)
   rw [if_pos c13] at H
   have c13b0 : decide (x12_1 < (l0.length : Int)) = true := decide_eq_true c13
   clear c13
   by_cases c14 : a2 = 0
   ·rw [if_pos c14] at H
    exact absurd H (by simp)
   rw [if_neg c14] at H
   have c14b0 : (a2 == 0) = false := beq_eq_false_iff_ne.mpr c14
   have c14b1 : (a2 != 0) = true := bne_iff_ne.mpr c14
   have H' := A_ H
   clear H
   have p101 : 0 ≤ ((ji9) : Int) := of_decide_eq_true (by first | (with_reducible assumption) | assumption)
   have q101 : (ji9) < (l0.length : Int) := of_decide_eq_true (by first | (with_reducible assumption) | assumption)
   obtain ⟨ad101, e101, hx101_0, hx101_1, hx101_2⟩ := at_T72 HR0.out (ji9) p101 q101
   cases e101
   replace hx101_0 := (HB.out.cell (World.block_lt_of_cell? w _ hx101_0)).trans hx101_0
   replace hx101_1 := (HB.out.cell (World.block_lt_of_cell? w _ hx101_1)).trans hx101_1
   replace hx101_2 := (HB.out.cell (World.block_lt_of_cell? w _ hx101_2)).trans hx101_2
   replace p101 := eq_true p101
   replace q101 := eq_true q101
   have p102 : 0 ≤ (x12_1 : Int) := of_decide_eq_true (by first | (with_reducible assumption) | assumption)
   have q102 : x12_1 < (l0.length : Int) := of_decide_eq_true (by first | (with_reducible assumption) | assumption)
   obtain ⟨ad102, e102, hx102_0, hx102_1, hx102_2⟩ := at_T72 HR0.out x12_1 p102 q102
   obtain rfl : ad101 = ad102 := (by injection e102)
   replace hx102_0 := (HB.out.cell (World.block_lt_of_cell? w _ hx102_0)).trans hx102_0
   replace hx102_1 := (HB.out.cell (World.block_lt_of_cell? w _ hx102_1)).trans hx102_1
   replace hx102_2 := (HB.out.cell (World.block_lt_of_cell? w _ hx102_2)).trans hx102_2
   replace p102 := eq_true p102
   replace q102 := eq_true q102
   go_wp2
   repeat (go_quiet (fail); try go_wp2)
   go_roundg k1
   case measure => have := HK1.out; omega
   case rel => exact ⟨(wrap64 (x11_1 + (wrap64 (Int.tdiv (wrap64 (a1 * (wrap64 (((rd_T72 l0 (ji9)).f0) - ((rd_T72 l0 x12_1).f0))))) a2)))), (ji9), (by first | rfl | (simp; done) | (simp only [← hji9] <;> (first | rfl | simp)) | (simp [*]; done)), (by first | rfl | (simp; done) | (simp only [← hji9] <;> (first | rfl | simp)) | (simp [*]; done)), H', ⟨by have := HK1.out; omega⟩, ⟨by repeat (first | (with_reducible first | exact HB.out | apply below_alloc | apply pw_below_drewN | apply below_drew1) | exact HB.out)⟩⟩
end Go.Proofs.Ytciepmpadcpkbaa.G
