-- Written by this session's driver (wip/tools/printmore.py) over the kit's print, with hand-written parts.
import Derived.Test.YtiapmkndgalgnaaGBase
import Derived.Test.YtiapmkndgalgnaaGF24
import Derived.Test.YtiapmkndgalgnaaGF25
namespace Go.Proofs.Ytiapmkndgalgnaa.G
open Go.RowKit Go.Proofs.YtiapmkndgalgnaaW.PrintWords Go.Proofs.YtiapmkndgalgnaaW.PrintLast Go.Proofs.YtiapmkndgalgnaaW.PrintMore
attribute [local go_sem] max2_int min2_int max_two min_two max_three min_three max_four min_four   -- for this text's walks alone
set_option linter.unusedVariables false
set_option linter.unusedSimpArgs false

/-! ### dropperref03_AreBlocks: function 48 -/
def dropperref03_AreBlocks.l0 : Nat → List (S73) → List (S84) → Int → Option (Bool × Int)
 | 0, _, _, _ => none
 | k + 1, x0, x1, x6 => if x6 < (x1.length : Int) then (if 0 ≤ x6 then (if ((rd_T84 x1 x6).f0) < 0 then (some (false, 0)) else (if ((rd_T84 x1 x6).f1) ≤ ((rd_T84 x1 x6).f0) then (some (false, 0)) else (if ((rd_T84 x1 x6).f1) ≥ (x0.length : Int) then (some (false, 0)) else (if x6 > 0 then (if 0 ≤ (wrap64 (x6 - 1)) then (if (wrap64 (x6 - 1)) < (x1.length : Int) then (if ((rd_T84 x1 x6).f0) < ((rd_T84 x1 (wrap64 (x6 - 1))).f1) then (some (false, 0)) else (if 0 ≤ ((rd_T84 x1 x6).f0) then (if ((rd_T84 x1 x6).f0) ≤ (wrap64 (((rd_T84 x1 x6).f1) + 1)) then (if (wrap64 (((rd_T84 x1 x6).f1) + 1)) ≤ (x0.length : Int) then ((dropperref03_Some.f k ((x0.take ((wrap64 (((rd_T84 x1 x6).f1) + 1)) : Int).toNat).drop (((rd_T84 x1 x6).f0) : Int).toNat)).bind fun t109 => (if t109 = true then (some (false, 0)) else (dropperref03_AreBlocks.l0 k x0 x1 (wrap64 (x6 + 1))))) else (none)) else (none)) else (none))) else (none)) else (none)) else (if 0 ≤ ((rd_T84 x1 x6).f0) then (if ((rd_T84 x1 x6).f0) ≤ (wrap64 (((rd_T84 x1 x6).f1) + 1)) then (if (wrap64 (((rd_T84 x1 x6).f1) + 1)) ≤ (x0.length : Int) then ((dropperref03_Some.f k ((x0.take ((wrap64 (((rd_T84 x1 x6).f1) + 1)) : Int).toNat).drop (((rd_T84 x1 x6).f0) : Int).toNat)).bind fun t114 => (if t114 = true then (some (false, 0)) else (dropperref03_AreBlocks.l0 k x0 x1 (wrap64 (x6 + 1))))) else (none)) else (none)) else (none)))))) else (none)) else (some (true, 0))
def dropperref03_AreBlocks.f (k : Nat) (l0 : List (S73)) (l1 : List (S84)) : Option (Bool × Int) := (dropperref03_Valid.f k l0).bind fun t101 => (if t101 = true then (if (l1.length : Int) > 30 then (some (false, 0)) else (dropperref03_AreBlocks.l0 k l0 l1 0)) else (some (false, 20)))
theorem dropperref03_AreBlocks.mono_l : ∀ k, (∀ y0 y1 y2, LeO (dropperref03_AreBlocks.l0 k y0 y1 y2) (dropperref03_AreBlocks.l0 (k + 1) y0 y1 y2))
 | 0 => fun _ _ _ r h => by simp [dropperref03_AreBlocks.l0] at h
 | k + 1 => by
  have ih0 := dropperref03_AreBlocks.mono_l k
  ·intro y0 y1 y2
   unfold dropperref03_AreBlocks.l0
   repeat' first
   | (with_reducible exact ih0 _ _ _)
   | (with_reducible exact dropperref03_Some.mono _ _)
   | (with_reducible exact dropperref03_Valid.mono _ _)
   | (with_reducible exact LeO.refl _)
   | (with_reducible exact LeO.none _)
   | (with_reducible refine LeO.ite ?_ ?_)
   | (with_reducible refine LeO.bind ?_ (fun _ => ?_))
   | exact ih0 _ _ _
   | exact dropperref03_Some.mono _ _
   | exact dropperref03_Valid.mono _ _
   | exact LeO.none _
   | refine LeO.ite ?_ ?_
   | refine LeO.bind ?_ (fun _ => ?_)
theorem dropperref03_AreBlocks.mono : ∀ a0 a1 k, LeO (dropperref03_AreBlocks.f k a0 a1) (dropperref03_AreBlocks.f (k + 1) a0 a1) := by
 intro a0 a1 k
 have ih0 := dropperref03_AreBlocks.mono_l k
 unfold dropperref03_AreBlocks.f
 repeat' first
   | (with_reducible exact ih0 _ _ _)
   | (with_reducible exact dropperref03_Some.mono _ _)
   | (with_reducible exact dropperref03_Valid.mono _ _)
   | (with_reducible exact LeO.refl _)
   | (with_reducible exact LeO.none _)
   | (with_reducible refine LeO.ite ?_ ?_)
   | (with_reducible refine LeO.bind ?_ (fun _ => ?_))
   | exact ih0 _ _ _
   | exact dropperref03_Some.mono _ _
   | exact dropperref03_Valid.mono _ _
   | exact LeO.none _
   | refine LeO.ite ?_ ?_
   | refine LeO.bind ?_ (fun _ => ?_)
set_option maxHeartbeats 8000000 in
set_option maxRecDepth 100000 in
theorem dropperref03_AreBlocks.calls (k : Nat) (A0 : Option Addr) (c0 : Nat) (l0 : List (S73)) (A1 : Option Addr) (c1 : Nat) (l1 : List (S84)) (r1 : Bool) (r2 : Int) (w : World) (hr0 : Kd.C k73 w A0 l0.length l0) (hc0 : l0.length ≤ c0) (hr1 : Kd.C k84 w A1 l1.length l1) (hc1 : l1.length ≤ c1) (h : dropperref03_AreBlocks.f k l0 l1 = some (r1, r2)) :
  Calls Try.prog 48 #[.slice A0 l0.length c0, .slice A1 l1.length c1] w fun e w' => e = .returned (.tuple #[.bool r1, .int .i64 r2]) ∧ Below w.heap.size w w' := by
 have HR0 := A_ hr0; have HC0 := A_ hc0; clear hr0 hc0; have HR1 := A_ hr1; have HC1 := A_ hc1; clear hr1 hc1; have HB := A_ (Below.refl w.heap.size w)
 have H : ((dropperref03_Valid.f k l0).bind fun t101 => (if t101 = true then (if (l1.length : Int) > 30 then (some (false, 0)) else (dropperref03_AreBlocks.l0 k l0 l1 0)) else (some (false, 20)))) = some (r1, r2) := h
 clear h; replace H := Option.bind_eq_some_iff.mp H; obtain ⟨t101, A30, H⟩ := H; (try dsimp only at H); have A3 := A_ A30; clear A30; by_cases c4 : t101 = true; rotate_left
 ·replace c4 := Bool.eq_false_iff.mpr c4
  subst c4; rw [if_neg (show ¬ (false = true) by decide)] at H; simp only [Option.some.injEq, Prod.mk.injEq] at H; obtain ⟨rfl, rfl⟩ := H
  go_enter Try.func48, Try.ntmps48
  go_wp2_with (first | (go_at_call 24; (with_reducible refine (dropperref03_Valid.calls k _ _ l0 false _ ?side1 ?side2 A3.out).mono ?_); (case side1 => exact cU HR0.out); (case side2 => exact HC0.out); rintro e w36 ⟨rfl, hb⟩; have n0_ := A_ (below_step (bW0 HB.out) hb); clear HB; have HB := n0_; clear n0_; (try clear hb)))
  repeat (go_quiet (first | (go_at_call 24; (with_reducible refine (dropperref03_Valid.calls k _ _ l0 false _ ?side1 ?side2 A3.out).mono ?_); (case side1 => exact cU HR0.out); (case side2 => exact HC0.out); rintro e w36 ⟨rfl, hb⟩; have n0_ := A_ (below_step (bW0 HB.out) hb); clear HB; have HB := n0_; clear n0_; (try clear hb))); try go_wp2_with (first | (go_at_call 24; (with_reducible refine (dropperref03_Valid.calls k _ _ l0 false _ ?side1 ?side2 A3.out).mono ?_); (case side1 => exact cU HR0.out); (case side2 => exact HC0.out); rintro e w36 ⟨rfl, hb⟩; have n0_ := A_ (below_step (bW0 HB.out) hb); clear HB; have HB := n0_; clear n0_; (try clear hb))))
  go_ret2
  exact ⟨eQ, by repeat (first | (with_reducible first | exact HB.out | apply below_alloc | apply pw_below_drewN | apply below_drew1) | exact HB.out)⟩

 subst c4; rw [if_pos rfl] at H; by_cases c5 : (l1.length : Int) > 30
 ·rw [if_pos c5] at H
  have c5b0 : decide (30 < (l1.length : Int)) = true := decide_eq_true c5
  have c5b1 : decide (30 < l1.length) = true := decide_eq_true (by omega)
  clear c5; simp only [Option.some.injEq, Prod.mk.injEq] at H; obtain ⟨rfl, rfl⟩ := H
  go_enter Try.func48, Try.ntmps48
  go_wp2_with (first | (go_at_call 24; (with_reducible refine (dropperref03_Valid.calls k _ _ l0 true _ ?side1 ?side2 A3.out).mono ?_); (case side1 => exact cU HR0.out); (case side2 => exact HC0.out); rintro e w6 ⟨rfl, hb⟩; have n0_ := A_ (below_step (bW0 HB.out) hb); clear HB; have HB := n0_; clear n0_; (try clear hb)))
  repeat (go_quiet (first | (go_at_call 24; (with_reducible refine (dropperref03_Valid.calls k _ _ l0 true _ ?side1 ?side2 A3.out).mono ?_); (case side1 => exact cU HR0.out); (case side2 => exact HC0.out); rintro e w6 ⟨rfl, hb⟩; have n0_ := A_ (below_step (bW0 HB.out) hb); clear HB; have HB := n0_; clear n0_; (try clear hb))); try go_wp2_with (first | (go_at_call 24; (with_reducible refine (dropperref03_Valid.calls k _ _ l0 true _ ?side1 ?side2 A3.out).mono ?_); (case side1 => exact cU HR0.out); (case side2 => exact HC0.out); rintro e w6 ⟨rfl, hb⟩; have n0_ := A_ (below_step (bW0 HB.out) hb); clear HB; have HB := n0_; clear n0_; (try clear hb))))
  go_ret2
  exact ⟨eQ, by repeat (first | (with_reducible first | exact HB.out | apply below_alloc | apply pw_below_drewN | apply below_drew1) | exact HB.out)⟩
 rw [if_neg c5] at H; have c5b0 : decide (30 < (l1.length : Int)) = false := decide_eq_false c5
 have c5b1 : decide (30 < l1.length) = false := decide_eq_false (by omega)
 clear c5; have H' := A_ H; clear H
 go_enter Try.func48, Try.ntmps48
 go_wp2_with (first | (go_at_call 24; (with_reducible refine (dropperref03_Valid.calls k _ _ l0 true _ ?side1 ?side2 A3.out).mono ?_); (case side1 => exact cU HR0.out); (case side2 => exact HC0.out); rintro e w7 ⟨rfl, hb⟩; have n0_ := A_ (below_step (bW0 HB.out) hb); clear HB; have HB := n0_; clear n0_; (try clear hb)))
 repeat (go_quiet (first | (go_at_call 24; (with_reducible refine (dropperref03_Valid.calls k _ _ l0 true _ ?side1 ?side2 A3.out).mono ?_); (case side1 => exact cU HR0.out); (case side2 => exact HC0.out); rintro e w7 ⟨rfl, hb⟩; have n0_ := A_ (below_step (bW0 HB.out) hb); clear HB; have HB := n0_; clear n0_; (try clear hb))); try go_wp2_with (first | (go_at_call 24; (with_reducible refine (dropperref03_Valid.calls k _ _ l0 true _ ?side1 ?side2 A3.out).mono ?_); (case side1 => exact cU HR0.out); (case side2 => exact HC0.out); rintro e w7 ⟨rfl, hb⟩; have n0_ := A_ (below_step (bW0 HB.out) hb); clear HB; have HB := n0_; clear n0_; (try clear hb))))
 go_loopg [6] k (fun kq v6 w' => ∃ (x6_1 : Int), v6 = .int .i64 x6_1 ∧ Aside0 (dropperref03_AreBlocks.l0 kq l0 l1 x6_1 = some (r1, r2)) ∧ Aside0 (kq ≤ k) ∧ Aside0 (Below w.heap.size w w'))
 case atStart => exact ⟨(0), eS, H', ⟨Nat.le_refl _⟩, ⟨by repeat (first | (with_reducible first | exact HB.out | apply below_alloc | apply pw_below_drewN | apply below_drew1) | exact HB.out)⟩⟩
 case round =>
  clear H'
  try clear c1; try clear p2; try clear c4; try clear c5; try clear c5b0; try clear c5b1
  obtain ⟨x6_1, rfl, HA, HK1, HB⟩ := hrel
  cases gk with
  | zero => exact absurd HA.out (by simp [dropperref03_AreBlocks.l0])
  | succ k1 =>
   have H := HA.out; clear HA; simp only [dropperref03_AreBlocks.l0] at H; by_cases c8 : x6_1 < (l1.length : Int); rotate_left
   ·rw [if_neg c8] at H
    have c8b0 : decide (x6_1 < (l1.length : Int)) = false := decide_eq_false c8; clear c8; simp only [Option.some.injEq, Prod.mk.injEq] at H; obtain ⟨rfl, rfl⟩ := H
    go_wp2
    repeat (go_quiet (fail); try go_wp2)
    go_ret2
    exact ⟨eQ, by repeat (first | (with_reducible first | exact HB.out | apply below_alloc | apply pw_below_drewN | apply below_drew1) | exact HB.out)⟩
   rw [if_pos c8] at H; have c8b0 : decide (x6_1 < (l1.length : Int)) = true := decide_eq_true c8; clear c8; by_cases c9 : 0 ≤ x6_1; rotate_left
   ·rw [if_neg c9] at H
    exact absurd H (by simp)
   rw [if_pos c9] at H; have c9b0 : decide (0 ≤ x6_1) = true := decide_eq_true c9; clear c9; by_cases c10 : ((rd_T84 l1 x6_1).f0) < 0
   ·rw [if_pos c10] at H
    have c10b0 : decide (((rd_T84 l1 x6_1).f0) < 0) = true := decide_eq_true c10; clear c10; simp only [Option.some.injEq, Prod.mk.injEq] at H; obtain ⟨rfl, rfl⟩ := H; have p102 : 0 ≤ (x6_1 : Int) := oD; have q102 : x6_1 < (l1.length : Int) := oD; obtain ⟨ad102, e102, hx102_0, hx102_1⟩ := at_T84 HR1.out x6_1 p102 q102
    cases e102
    replace hx102_0 := (HB.out.cell (World.block_lt_of_cell? w _ hx102_0)).trans hx102_0; replace hx102_1 := (HB.out.cell (World.block_lt_of_cell? w _ hx102_1)).trans hx102_1; replace p102 := eq_true p102; replace q102 := eq_true q102; have p103 : 0 ≤ (x6_1 : Int) := oD; have q103 : x6_1 < (l1.length : Int) := oD; obtain ⟨ad103, e103, hx103_0, hx103_1⟩ := at_T84 HR1.out x6_1 p103 q103
    obtain rfl : ad102 = ad103 := (by injection e103)
    replace hx103_0 := (HB.out.cell (World.block_lt_of_cell? w _ hx103_0)).trans hx103_0; replace hx103_1 := (HB.out.cell (World.block_lt_of_cell? w _ hx103_1)).trans hx103_1; replace p103 := eq_true p103; replace q103 := eq_true q103
    go_wp2
    repeat (go_quiet (fail); try go_wp2)
    go_ret2
    exact ⟨eQ, by repeat (first | (with_reducible first | exact HB.out | apply below_alloc | apply pw_below_drewN | apply below_drew1) | exact HB.out)⟩
   rw [if_neg c10] at H; have c10b0 : decide (((rd_T84 l1 x6_1).f0) < 0) = false := decide_eq_false c10; clear c10; by_cases c11 : ((rd_T84 l1 x6_1).f1) ≤ ((rd_T84 l1 x6_1).f0)
   ·rw [if_pos c11] at H
    have c11b0 : decide (((rd_T84 l1 x6_1).f1) ≤ ((rd_T84 l1 x6_1).f0)) = true := decide_eq_true c11; clear c11; simp only [Option.some.injEq, Prod.mk.injEq] at H; obtain ⟨rfl, rfl⟩ := H; have p102 : 0 ≤ (x6_1 : Int) := oD; have q102 : x6_1 < (l1.length : Int) := oD; obtain ⟨ad102, e102, hx102_0, hx102_1⟩ := at_T84 HR1.out x6_1 p102 q102
    cases e102
    replace hx102_0 := (HB.out.cell (World.block_lt_of_cell? w _ hx102_0)).trans hx102_0; replace hx102_1 := (HB.out.cell (World.block_lt_of_cell? w _ hx102_1)).trans hx102_1; replace p102 := eq_true p102; replace q102 := eq_true q102; have p103 : 0 ≤ (x6_1 : Int) := oD; have q103 : x6_1 < (l1.length : Int) := oD; obtain ⟨ad103, e103, hx103_0, hx103_1⟩ := at_T84 HR1.out x6_1 p103 q103
    obtain rfl : ad102 = ad103 := (by injection e103)
    replace hx103_0 := (HB.out.cell (World.block_lt_of_cell? w _ hx103_0)).trans hx103_0; replace hx103_1 := (HB.out.cell (World.block_lt_of_cell? w _ hx103_1)).trans hx103_1; replace p103 := eq_true p103; replace q103 := eq_true q103
    go_wp2
    repeat (go_quiet (fail); try go_wp2)
    go_ret2
    exact ⟨eQ, by repeat (first | (with_reducible first | exact HB.out | apply below_alloc | apply pw_below_drewN | apply below_drew1) | exact HB.out)⟩
   rw [if_neg c11] at H; have c11b0 : decide (((rd_T84 l1 x6_1).f1) ≤ ((rd_T84 l1 x6_1).f0)) = false := decide_eq_false c11; clear c11; by_cases c12 : ((rd_T84 l1 x6_1).f1) ≥ (l0.length : Int)
   ·rw [if_pos c12] at H
    have c12b0 : decide ((l0.length : Int) ≤ ((rd_T84 l1 x6_1).f1)) = true := decide_eq_true c12; clear c12; simp only [Option.some.injEq, Prod.mk.injEq] at H; obtain ⟨rfl, rfl⟩ := H; have p102 : 0 ≤ (x6_1 : Int) := oD; have q102 : x6_1 < (l1.length : Int) := oD; obtain ⟨ad102, e102, hx102_0, hx102_1⟩ := at_T84 HR1.out x6_1 p102 q102
    cases e102
    replace hx102_0 := (HB.out.cell (World.block_lt_of_cell? w _ hx102_0)).trans hx102_0; replace hx102_1 := (HB.out.cell (World.block_lt_of_cell? w _ hx102_1)).trans hx102_1; replace p102 := eq_true p102; replace q102 := eq_true q102; have p103 : 0 ≤ (x6_1 : Int) := oD; have q103 : x6_1 < (l1.length : Int) := oD; obtain ⟨ad103, e103, hx103_0, hx103_1⟩ := at_T84 HR1.out x6_1 p103 q103
    obtain rfl : ad102 = ad103 := (by injection e103)
    replace hx103_0 := (HB.out.cell (World.block_lt_of_cell? w _ hx103_0)).trans hx103_0; replace hx103_1 := (HB.out.cell (World.block_lt_of_cell? w _ hx103_1)).trans hx103_1; replace p103 := eq_true p103; replace q103 := eq_true q103
    go_wp2
    repeat (go_quiet (fail); try go_wp2)
    go_ret2
    exact ⟨eQ, by repeat (first | (with_reducible first | exact HB.out | apply below_alloc | apply pw_below_drewN | apply below_drew1) | exact HB.out)⟩
   rw [if_neg c12] at H; have c12b0 : decide ((l0.length : Int) ≤ ((rd_T84 l1 x6_1).f1)) = false := decide_eq_false c12; clear c12; by_cases c13 : x6_1 > 0; rotate_left
   ·rw [if_neg c13] at H
    have c13b0 : decide (0 < x6_1) = false := decide_eq_false c13; clear c13; by_cases c27 : 0 ≤ ((rd_T84 l1 x6_1).f0); rotate_left
    ·rw [if_neg c27] at H
     exact absurd H (by simp)
    rw [if_pos c27] at H; have c27b0 := eq_true c27; have c27b1 : decide (0 ≤ ((rd_T84 l1 x6_1).f0)) = true := decide_eq_true c27; clear c27; by_cases c28 : ((rd_T84 l1 x6_1).f0) ≤ (wrap64 (((rd_T84 l1 x6_1).f1) + 1)); rotate_left
    ·rw [if_neg c28] at H
     exact absurd H (by simp)
    rw [if_pos c28] at H; have c28b0 := eq_true c28; have c28b1 : decide (((rd_T84 l1 x6_1).f0) ≤ (wrap64 (((rd_T84 l1 x6_1).f1) + 1))) = true := decide_eq_true c28; by_cases c29 : (wrap64 (((rd_T84 l1 x6_1).f1) + 1)) ≤ (l0.length : Int); rotate_left
    ·rw [if_neg c29] at H
     exact absurd H (by simp)
    rw [if_pos c29] at H; have c29b0 := eq_true c29; have c29b1 : decide ((wrap64 (((rd_T84 l1 x6_1).f1) + 1)) ≤ (l0.length : Int)) = true := decide_eq_true c29; obtain ⟨y110, hy110⟩ : ∃ y_ : List (S73), y_ = ((l0.take ((wrap64 (((rd_T84 l1 x6_1).f1) + 1)) : Int).toNat).drop (((rd_T84 l1 x6_1).f0) : Int).toNat) := ⟨_, rfl⟩
    replace H : ((dropperref03_Some.f k1 y110).bind fun t114 => (if t114 = true then (some (false, 0)) else (dropperref03_AreBlocks.l0 k1 l0 l1 (wrap64 (x6_1 + 1))))) = some (r1, r2) := by first | (rw [hy110]; with_reducible exact H) | (have H2_ := (Option.bind_some _ _).symm.trans H; rw [hy110]; with_reducible exact H2_) | (have H2_ := (Option.bind_some _ _).symm.trans H; with_reducible exact H2_) | with_reducible exact H | (rw [hy110]; exact H) | exact H
    have Ny110 := A_ hy110; clear hy110; replace H := Option.bind_eq_some_iff.mp H; obtain ⟨t114, A300, H⟩ := H; (try dsimp only at H); have A30 := A_ A300; clear A300; by_cases c31 : t114 = true
    ·subst c31
     rw [if_pos rfl] at H; simp only [Option.some.injEq, Prod.mk.injEq] at H; obtain ⟨rfl, rfl⟩ := H; have p102 : 0 ≤ (x6_1 : Int) := oD; have q102 : x6_1 < (l1.length : Int) := oD; obtain ⟨ad102, e102, hx102_0, hx102_1⟩ := at_T84 HR1.out x6_1 p102 q102
     cases e102
     replace hx102_0 := (HB.out.cell (World.block_lt_of_cell? w _ hx102_0)).trans hx102_0; replace hx102_1 := (HB.out.cell (World.block_lt_of_cell? w _ hx102_1)).trans hx102_1; replace p102 := eq_true p102; replace q102 := eq_true q102; have p103 : 0 ≤ (x6_1 : Int) := oD; have q103 : x6_1 < (l1.length : Int) := oD; obtain ⟨ad103, e103, hx103_0, hx103_1⟩ := at_T84 HR1.out x6_1 p103 q103
     obtain rfl : ad102 = ad103 := (by injection e103)
     replace hx103_0 := (HB.out.cell (World.block_lt_of_cell? w _ hx103_0)).trans hx103_0; replace hx103_1 := (HB.out.cell (World.block_lt_of_cell? w _ hx103_1)).trans hx103_1; replace p103 := eq_true p103; replace q103 := eq_true q103; have q32 : ((wrap64 (((rd_T84 l1 x6_1).f1) + 1)) : Int) ≤ ((l0.length : Int) : Int) := oD; obtain ⟨i032, hi032, _, hsz32, _⟩ := info_parts info73; have hroom32 : l0.length ≤ c0 := HC0.out; have hC32 : Kd.C k73 _ A0 l0.length l0 := HR0.out; have ql32 : (((rd_T84 l1 x6_1).f0) : Int) ≤ ((wrap64 (((rd_T84 l1 x6_1).f1) + 1)) : Int) := oD; have q032 : (0 : Int) ≤ (((rd_T84 l1 x6_1).f0) : Int) := oD; have hcut32 := cut_mid (P := Try.prog) 30 73 .i64 .i64 Try.underlying30 hi032 3 hsz32 A0 l0.length c0 ((rd_T84 l1 x6_1).f0) (wrap64 (((rd_T84 l1 x6_1).f1) + 1)) q032 ql32 q32 hroom32
     have hr32 := Kd.C_mid (lo := (((rd_T84 l1 x6_1).f0) : Int).toNat) (hi := ((wrap64 (((rd_T84 l1 x6_1).f1) + 1)) : Int).toNat) (c := c0) hC32 (by omega) (by omega) hroom32
     obtain ⟨A32, hA32⟩ : ∃ A1, A1 = (if c0 = (((rd_T84 l1 x6_1).f0) : Int).toNat then A0 else (A0 : Option Addr).map (·.add ((((rd_T84 l1 x6_1).f0) : Int).toNat * 3))) := ⟨_, rfl⟩
     obtain ⟨c32, hc32⟩ : ∃ c1, c1 = c0 - (((rd_T84 l1 x6_1).f0) : Int).toNat := ⟨_, rfl⟩
     have hy32 : y110.length = ((wrap64 (((rd_T84 l1 x6_1).f1) + 1)) : Int).toNat - (((rd_T84 l1 x6_1).f0) : Int).toNat := (by rw [Ny110.out, List.length_drop, List.length_take] <;> omega)
     rw [show ((l0).take ((wrap64 (((rd_T84 l1 x6_1).f1) + 1)) : Int).toNat).drop (((rd_T84 l1 x6_1).f0) : Int).toNat = y110 from Ny110.out.symm] at hr32
     replace hr32 : Kd.C k73 _ A32 y110.length y110 := (by rw [hA32]; exact hr32)
     rw [← hy32, ← hA32, ← hc32] at hcut32; have HR113 := A_ hr32
     have HC113 := A_ (show y110.length ≤ c32 from by rw [hy32, hc32]; exact Nat.sub_le_sub_right (Nat.le_trans (by omega) hroom32) _)
     clear hr32 hC32 hroom32 hi032 hsz32 hc32; have KY32 := A_ hy32; have KA32 := A_ hA32; clear hy32 hA32; replace q32 := eq_true q32
     go_wp2_with (first | (go_at_call 25; (with_reducible refine (dropperref03_Some.calls k1 _ _ y110 true _ ?side1 ?side2 A30.out).mono ?_); (case side1 => exact cU (Kd.C_below HR113.out HB.out)); (case side2 => exact HC113.out); rintro e w33 ⟨rfl, hb⟩; have n0_ := A_ (below_step (bW0 HB.out) hb); clear HB; have HB := n0_; clear n0_; (try clear hb)))
     repeat (go_quiet (first | (go_at_call 25; (with_reducible refine (dropperref03_Some.calls k1 _ _ y110 true _ ?side1 ?side2 A30.out).mono ?_); (case side1 => exact cU (Kd.C_below HR113.out HB.out)); (case side2 => exact HC113.out); rintro e w33 ⟨rfl, hb⟩; have n0_ := A_ (below_step (bW0 HB.out) hb); clear HB; have HB := n0_; clear n0_; (try clear hb))); try go_wp2_with (first | (go_at_call 25; (with_reducible refine (dropperref03_Some.calls k1 _ _ y110 true _ ?side1 ?side2 A30.out).mono ?_); (case side1 => exact cU (Kd.C_below HR113.out HB.out)); (case side2 => exact HC113.out); rintro e w33 ⟨rfl, hb⟩; have n0_ := A_ (below_step (bW0 HB.out) hb); clear HB; have HB := n0_; clear n0_; (try clear hb))))
     go_ret2
     exact ⟨eQ, by repeat (first | (with_reducible first | exact HB.out | apply below_alloc | apply pw_below_drewN | apply below_drew1) | exact HB.out)⟩
    replace c31 := Bool.eq_false_iff.mpr c31; subst c31; rw [if_neg (show ¬ (false = true) by decide)] at H; have H' := A_ H; clear H; have p102 : 0 ≤ (x6_1 : Int) := oD; have q102 : x6_1 < (l1.length : Int) := oD; obtain ⟨ad102, e102, hx102_0, hx102_1⟩ := at_T84 HR1.out x6_1 p102 q102
    cases e102
    replace hx102_0 := (HB.out.cell (World.block_lt_of_cell? w _ hx102_0)).trans hx102_0; replace hx102_1 := (HB.out.cell (World.block_lt_of_cell? w _ hx102_1)).trans hx102_1; replace p102 := eq_true p102; replace q102 := eq_true q102; have p103 : 0 ≤ (x6_1 : Int) := oD; have q103 : x6_1 < (l1.length : Int) := oD; obtain ⟨ad103, e103, hx103_0, hx103_1⟩ := at_T84 HR1.out x6_1 p103 q103
    obtain rfl : ad102 = ad103 := (by injection e103)
    replace hx103_0 := (HB.out.cell (World.block_lt_of_cell? w _ hx103_0)).trans hx103_0; replace hx103_1 := (HB.out.cell (World.block_lt_of_cell? w _ hx103_1)).trans hx103_1; replace p103 := eq_true p103; replace q103 := eq_true q103; have q34 : ((wrap64 (((rd_T84 l1 x6_1).f1) + 1)) : Int) ≤ ((l0.length : Int) : Int) := oD; obtain ⟨i034, hi034, _, hsz34, _⟩ := info_parts info73; have hroom34 : l0.length ≤ c0 := HC0.out; have hC34 : Kd.C k73 _ A0 l0.length l0 := HR0.out; have ql34 : (((rd_T84 l1 x6_1).f0) : Int) ≤ ((wrap64 (((rd_T84 l1 x6_1).f1) + 1)) : Int) := oD; have q034 : (0 : Int) ≤ (((rd_T84 l1 x6_1).f0) : Int) := oD; have hcut34 := cut_mid (P := Try.prog) 30 73 .i64 .i64 Try.underlying30 hi034 3 hsz34 A0 l0.length c0 ((rd_T84 l1 x6_1).f0) (wrap64 (((rd_T84 l1 x6_1).f1) + 1)) q034 ql34 q34 hroom34
    have hr34 := Kd.C_mid (lo := (((rd_T84 l1 x6_1).f0) : Int).toNat) (hi := ((wrap64 (((rd_T84 l1 x6_1).f1) + 1)) : Int).toNat) (c := c0) hC34 (by omega) (by omega) hroom34
    obtain ⟨A34, hA34⟩ : ∃ A1, A1 = (if c0 = (((rd_T84 l1 x6_1).f0) : Int).toNat then A0 else (A0 : Option Addr).map (·.add ((((rd_T84 l1 x6_1).f0) : Int).toNat * 3))) := ⟨_, rfl⟩
    obtain ⟨c34, hc34⟩ : ∃ c1, c1 = c0 - (((rd_T84 l1 x6_1).f0) : Int).toNat := ⟨_, rfl⟩
    have hy34 : y110.length = ((wrap64 (((rd_T84 l1 x6_1).f1) + 1)) : Int).toNat - (((rd_T84 l1 x6_1).f0) : Int).toNat := (by rw [Ny110.out, List.length_drop, List.length_take] <;> omega)
    rw [show ((l0).take ((wrap64 (((rd_T84 l1 x6_1).f1) + 1)) : Int).toNat).drop (((rd_T84 l1 x6_1).f0) : Int).toNat = y110 from Ny110.out.symm] at hr34
    replace hr34 : Kd.C k73 _ A34 y110.length y110 := (by rw [hA34]; exact hr34)
    rw [← hy34, ← hA34, ← hc34] at hcut34; have HR113 := A_ hr34
    have HC113 := A_ (show y110.length ≤ c34 from by rw [hy34, hc34]; exact Nat.sub_le_sub_right (Nat.le_trans (by omega) hroom34) _)
    clear hr34 hC34 hroom34 hi034 hsz34 hc34; have KY34 := A_ hy34; have KA34 := A_ hA34; clear hy34 hA34; replace q34 := eq_true q34
    go_wp2_with (first | (go_at_call 25; (with_reducible refine (dropperref03_Some.calls k1 _ _ y110 false _ ?side1 ?side2 A30.out).mono ?_); (case side1 => exact cU (Kd.C_below HR113.out HB.out)); (case side2 => exact HC113.out); rintro e w35 ⟨rfl, hb⟩; have n0_ := A_ (below_step (bW0 HB.out) hb); clear HB; have HB := n0_; clear n0_; (try clear hb)))
    repeat (go_quiet (first | (go_at_call 25; (with_reducible refine (dropperref03_Some.calls k1 _ _ y110 false _ ?side1 ?side2 A30.out).mono ?_); (case side1 => exact cU (Kd.C_below HR113.out HB.out)); (case side2 => exact HC113.out); rintro e w35 ⟨rfl, hb⟩; have n0_ := A_ (below_step (bW0 HB.out) hb); clear HB; have HB := n0_; clear n0_; (try clear hb))); try go_wp2_with (first | (go_at_call 25; (with_reducible refine (dropperref03_Some.calls k1 _ _ y110 false _ ?side1 ?side2 A30.out).mono ?_); (case side1 => exact cU (Kd.C_below HR113.out HB.out)); (case side2 => exact HC113.out); rintro e w35 ⟨rfl, hb⟩; have n0_ := A_ (below_step (bW0 HB.out) hb); clear HB; have HB := n0_; clear n0_; (try clear hb))))
    go_roundg k1
    case measure => have := HK1.out; omega
    case rel => exact ⟨(wrap64 (x6_1 + 1)), eS, H', ⟨by have := HK1.out; omega⟩, ⟨by repeat (first | (with_reducible first | exact HB.out | apply below_alloc | apply pw_below_drewN | apply below_drew1) | exact HB.out)⟩⟩
   rw [if_pos c13] at H; have c13b0 : decide (0 < x6_1) = true := decide_eq_true c13; clear c13; obtain ⟨ji14, hji14⟩ : ∃ j_ : Int, (wrap64 (x6_1 - 1)) = j_ := ⟨_, rfl⟩
   replace H : (if 0 ≤ (ji14) then (if (ji14) < (l1.length : Int) then (if ((rd_T84 l1 x6_1).f0) < ((rd_T84 l1 (ji14)).f1) then (some (false, 0)) else (if 0 ≤ ((rd_T84 l1 x6_1).f0) then (if ((rd_T84 l1 x6_1).f0) ≤ (wrap64 (((rd_T84 l1 x6_1).f1) + 1)) then (if (wrap64 (((rd_T84 l1 x6_1).f1) + 1)) ≤ (l0.length : Int) then ((dropperref03_Some.f k1 ((l0.take ((wrap64 (((rd_T84 l1 x6_1).f1) + 1)) : Int).toNat).drop (((rd_T84 l1 x6_1).f0) : Int).toNat)).bind fun t109 => (if t109 = true then (some (false, 0)) else (dropperref03_AreBlocks.l0 k1 l0 l1 (wrap64 (x6_1 + 1))))) else (none)) else (none)) else (none))) else (none)) else (none)) = some (r1, r2) := by first | (rw [hji14] at H; exact H) | (simp only [hji14] at H ⊢; exact H)
   have hji14w : (IntKind.i64.wrap (x6_1 - 1)) = ji14 := (i64_w _).trans hji14; by_cases c15 : 0 ≤ (ji14); rotate_left
   ·rw [if_neg c15] at H
    exact absurd H (by simp)
   rw [if_pos c15] at H; have c15b0 : decide (0 ≤ (ji14)) = true := decide_eq_true c15; clear c15; by_cases c16 : (ji14) < (l1.length : Int); rotate_left
   ·rw [if_neg c16] at H
    exact absurd H (by simp)
   rw [if_pos c16] at H; have c16b0 : decide ((ji14) < (l1.length : Int)) = true := decide_eq_true c16; clear c16; by_cases c17 : ((rd_T84 l1 x6_1).f0) < ((rd_T84 l1 (ji14)).f1)
   ·rw [if_pos c17] at H
    have c17b0 : decide (((rd_T84 l1 x6_1).f0) < ((rd_T84 l1 (ji14)).f1)) = true := decide_eq_true c17; clear c17; simp only [Option.some.injEq, Prod.mk.injEq] at H; obtain ⟨rfl, rfl⟩ := H; have p102 : 0 ≤ (x6_1 : Int) := oD; have q102 : x6_1 < (l1.length : Int) := oD; obtain ⟨ad102, e102, hx102_0, hx102_1⟩ := at_T84 HR1.out x6_1 p102 q102
    cases e102
    replace hx102_0 := (HB.out.cell (World.block_lt_of_cell? w _ hx102_0)).trans hx102_0; replace hx102_1 := (HB.out.cell (World.block_lt_of_cell? w _ hx102_1)).trans hx102_1; replace p102 := eq_true p102; replace q102 := eq_true q102; have p103 : 0 ≤ (x6_1 : Int) := oD; have q103 : x6_1 < (l1.length : Int) := oD; obtain ⟨ad103, e103, hx103_0, hx103_1⟩ := at_T84 HR1.out x6_1 p103 q103
    obtain rfl : ad102 = ad103 := (by injection e103)
    replace hx103_0 := (HB.out.cell (World.block_lt_of_cell? w _ hx103_0)).trans hx103_0; replace hx103_1 := (HB.out.cell (World.block_lt_of_cell? w _ hx103_1)).trans hx103_1; replace p103 := eq_true p103; replace q103 := eq_true q103; have p104 : 0 ≤ ((ji14) : Int) := oD; have q104 : (ji14) < (l1.length : Int) := oD; obtain ⟨ad104, e104, hx104_0, hx104_1⟩ := at_T84 HR1.out (ji14) p104 q104
    obtain rfl : ad102 = ad104 := (by injection e104)
    replace hx104_0 := (HB.out.cell (World.block_lt_of_cell? w _ hx104_0)).trans hx104_0; replace hx104_1 := (HB.out.cell (World.block_lt_of_cell? w _ hx104_1)).trans hx104_1; replace p104 := eq_true p104; replace q104 := eq_true q104
    go_wp2
    repeat (go_quiet (fail); try go_wp2)
    go_ret2
    exact ⟨by first | rfl | (simp [errW_none, errW_some] <;> rfl) | (simp only [← hji14]; first | rfl | (simp [errW_none, errW_some] <;> rfl)) | (simp [*, errW_none, errW_some] <;> rfl), by repeat (first | (with_reducible first | exact HB.out | apply below_alloc | apply pw_below_drewN | apply below_drew1) | exact HB.out)⟩
   rw [if_neg c17] at H; have c17b0 : decide (((rd_T84 l1 x6_1).f0) < ((rd_T84 l1 (ji14)).f1)) = false := decide_eq_false c17; clear c17; by_cases c18 : 0 ≤ ((rd_T84 l1 x6_1).f0); rotate_left
   ·rw [if_neg c18] at H
    exact absurd H (by simp)
   rw [if_pos c18] at H; have c18b0 := eq_true c18; have c18b1 : decide (0 ≤ ((rd_T84 l1 x6_1).f0)) = true := decide_eq_true c18; clear c18; by_cases c19 : ((rd_T84 l1 x6_1).f0) ≤ (wrap64 (((rd_T84 l1 x6_1).f1) + 1)); rotate_left
   ·rw [if_neg c19] at H
    exact absurd H (by simp)
   rw [if_pos c19] at H; have c19b0 := eq_true c19; have c19b1 : decide (((rd_T84 l1 x6_1).f0) ≤ (wrap64 (((rd_T84 l1 x6_1).f1) + 1))) = true := decide_eq_true c19; by_cases c20 : (wrap64 (((rd_T84 l1 x6_1).f1) + 1)) ≤ (l0.length : Int); rotate_left
   ·rw [if_neg c20] at H
    exact absurd H (by simp)
   rw [if_pos c20] at H; have c20b0 := eq_true c20; have c20b1 : decide ((wrap64 (((rd_T84 l1 x6_1).f1) + 1)) ≤ (l0.length : Int)) = true := decide_eq_true c20; obtain ⟨y105, hy105⟩ : ∃ y_ : List (S73), y_ = ((l0.take ((wrap64 (((rd_T84 l1 x6_1).f1) + 1)) : Int).toNat).drop (((rd_T84 l1 x6_1).f0) : Int).toNat) := ⟨_, rfl⟩
   replace H : ((dropperref03_Some.f k1 y105).bind fun t109 => (if t109 = true then (some (false, 0)) else (dropperref03_AreBlocks.l0 k1 l0 l1 (wrap64 (x6_1 + 1))))) = some (r1, r2) := by first | (rw [hy105]; with_reducible exact H) | (have H2_ := (Option.bind_some _ _).symm.trans H; rw [hy105]; with_reducible exact H2_) | (have H2_ := (Option.bind_some _ _).symm.trans H; with_reducible exact H2_) | with_reducible exact H | (rw [hy105]; exact H) | exact H
   have Ny105 := A_ hy105; clear hy105; replace H := Option.bind_eq_some_iff.mp H; obtain ⟨t109, A210, H⟩ := H; (try dsimp only at H); have A21 := A_ A210; clear A210; by_cases c22 : t109 = true
   ·subst c22
    rw [if_pos rfl] at H; simp only [Option.some.injEq, Prod.mk.injEq] at H; obtain ⟨rfl, rfl⟩ := H; have p102 : 0 ≤ (x6_1 : Int) := oD; have q102 : x6_1 < (l1.length : Int) := oD; obtain ⟨ad102, e102, hx102_0, hx102_1⟩ := at_T84 HR1.out x6_1 p102 q102
    cases e102
    replace hx102_0 := (HB.out.cell (World.block_lt_of_cell? w _ hx102_0)).trans hx102_0; replace hx102_1 := (HB.out.cell (World.block_lt_of_cell? w _ hx102_1)).trans hx102_1; replace p102 := eq_true p102; replace q102 := eq_true q102; have p103 : 0 ≤ (x6_1 : Int) := oD; have q103 : x6_1 < (l1.length : Int) := oD; obtain ⟨ad103, e103, hx103_0, hx103_1⟩ := at_T84 HR1.out x6_1 p103 q103
    obtain rfl : ad102 = ad103 := (by injection e103)
    replace hx103_0 := (HB.out.cell (World.block_lt_of_cell? w _ hx103_0)).trans hx103_0; replace hx103_1 := (HB.out.cell (World.block_lt_of_cell? w _ hx103_1)).trans hx103_1; replace p103 := eq_true p103; replace q103 := eq_true q103; have p104 : 0 ≤ ((ji14) : Int) := oD; have q104 : (ji14) < (l1.length : Int) := oD; obtain ⟨ad104, e104, hx104_0, hx104_1⟩ := at_T84 HR1.out (ji14) p104 q104
    obtain rfl : ad102 = ad104 := (by injection e104)
    replace hx104_0 := (HB.out.cell (World.block_lt_of_cell? w _ hx104_0)).trans hx104_0; replace hx104_1 := (HB.out.cell (World.block_lt_of_cell? w _ hx104_1)).trans hx104_1; replace p104 := eq_true p104; replace q104 := eq_true q104; have q23 : ((wrap64 (((rd_T84 l1 x6_1).f1) + 1)) : Int) ≤ ((l0.length : Int) : Int) := oD; obtain ⟨i023, hi023, _, hsz23, _⟩ := info_parts info73; have hroom23 : l0.length ≤ c0 := HC0.out; have hC23 : Kd.C k73 _ A0 l0.length l0 := HR0.out; have ql23 : (((rd_T84 l1 x6_1).f0) : Int) ≤ ((wrap64 (((rd_T84 l1 x6_1).f1) + 1)) : Int) := oD; have q023 : (0 : Int) ≤ (((rd_T84 l1 x6_1).f0) : Int) := oD; have hcut23 := cut_mid (P := Try.prog) 30 73 .i64 .i64 Try.underlying30 hi023 3 hsz23 A0 l0.length c0 ((rd_T84 l1 x6_1).f0) (wrap64 (((rd_T84 l1 x6_1).f1) + 1)) q023 ql23 q23 hroom23
    have hr23 := Kd.C_mid (lo := (((rd_T84 l1 x6_1).f0) : Int).toNat) (hi := ((wrap64 (((rd_T84 l1 x6_1).f1) + 1)) : Int).toNat) (c := c0) hC23 (by omega) (by omega) hroom23
    obtain ⟨A23, hA23⟩ : ∃ A1, A1 = (if c0 = (((rd_T84 l1 x6_1).f0) : Int).toNat then A0 else (A0 : Option Addr).map (·.add ((((rd_T84 l1 x6_1).f0) : Int).toNat * 3))) := ⟨_, rfl⟩
    obtain ⟨c23, hc23⟩ : ∃ c1, c1 = c0 - (((rd_T84 l1 x6_1).f0) : Int).toNat := ⟨_, rfl⟩
    have hy23 : y105.length = ((wrap64 (((rd_T84 l1 x6_1).f1) + 1)) : Int).toNat - (((rd_T84 l1 x6_1).f0) : Int).toNat := (by rw [Ny105.out, List.length_drop, List.length_take] <;> omega)
    rw [show ((l0).take ((wrap64 (((rd_T84 l1 x6_1).f1) + 1)) : Int).toNat).drop (((rd_T84 l1 x6_1).f0) : Int).toNat = y105 from Ny105.out.symm] at hr23
    replace hr23 : Kd.C k73 _ A23 y105.length y105 := (by rw [hA23]; exact hr23)
    rw [← hy23, ← hA23, ← hc23] at hcut23; have HR108 := A_ hr23
    have HC108 := A_ (show y105.length ≤ c23 from by rw [hy23, hc23]; exact Nat.sub_le_sub_right (Nat.le_trans (by omega) hroom23) _)
    clear hr23 hC23 hroom23 hi023 hsz23 hc23; have KY23 := A_ hy23; have KA23 := A_ hA23; clear hy23 hA23; replace q23 := eq_true q23
    go_wp2_with (first | (go_at_call 25; (with_reducible refine (dropperref03_Some.calls k1 _ _ y105 true _ ?side1 ?side2 A21.out).mono ?_); (case side1 => exact cU (Kd.C_below HR108.out HB.out)); (case side2 => exact HC108.out); rintro e w24 ⟨rfl, hb⟩; have n0_ := A_ (below_step (bW0 HB.out) hb); clear HB; have HB := n0_; clear n0_; (try clear hb)))
    repeat (go_quiet (first | (go_at_call 25; (with_reducible refine (dropperref03_Some.calls k1 _ _ y105 true _ ?side1 ?side2 A21.out).mono ?_); (case side1 => exact cU (Kd.C_below HR108.out HB.out)); (case side2 => exact HC108.out); rintro e w24 ⟨rfl, hb⟩; have n0_ := A_ (below_step (bW0 HB.out) hb); clear HB; have HB := n0_; clear n0_; (try clear hb))); try go_wp2_with (first | (go_at_call 25; (with_reducible refine (dropperref03_Some.calls k1 _ _ y105 true _ ?side1 ?side2 A21.out).mono ?_); (case side1 => exact cU (Kd.C_below HR108.out HB.out)); (case side2 => exact HC108.out); rintro e w24 ⟨rfl, hb⟩; have n0_ := A_ (below_step (bW0 HB.out) hb); clear HB; have HB := n0_; clear n0_; (try clear hb))))
    go_ret2
    exact ⟨by first | rfl | (simp [errW_none, errW_some] <;> rfl) | (simp only [← hji14]; first | rfl | (simp [errW_none, errW_some] <;> rfl)) | (simp [*, errW_none, errW_some] <;> rfl), by repeat (first | (with_reducible first | exact HB.out | apply below_alloc | apply pw_below_drewN | apply below_drew1) | exact HB.out)⟩
   replace c22 := Bool.eq_false_iff.mpr c22; subst c22; rw [if_neg (show ¬ (false = true) by decide)] at H; have H' := A_ H; clear H; have p102 : 0 ≤ (x6_1 : Int) := oD; have q102 : x6_1 < (l1.length : Int) := oD; obtain ⟨ad102, e102, hx102_0, hx102_1⟩ := at_T84 HR1.out x6_1 p102 q102
   cases e102
   replace hx102_0 := (HB.out.cell (World.block_lt_of_cell? w _ hx102_0)).trans hx102_0; replace hx102_1 := (HB.out.cell (World.block_lt_of_cell? w _ hx102_1)).trans hx102_1; replace p102 := eq_true p102; replace q102 := eq_true q102; have p103 : 0 ≤ (x6_1 : Int) := oD; have q103 : x6_1 < (l1.length : Int) := oD; obtain ⟨ad103, e103, hx103_0, hx103_1⟩ := at_T84 HR1.out x6_1 p103 q103
   obtain rfl : ad102 = ad103 := (by injection e103)
   replace hx103_0 := (HB.out.cell (World.block_lt_of_cell? w _ hx103_0)).trans hx103_0; replace hx103_1 := (HB.out.cell (World.block_lt_of_cell? w _ hx103_1)).trans hx103_1; replace p103 := eq_true p103; replace q103 := eq_true q103; have p104 : 0 ≤ ((ji14) : Int) := oD; have q104 : (ji14) < (l1.length : Int) := oD; obtain ⟨ad104, e104, hx104_0, hx104_1⟩ := at_T84 HR1.out (ji14) p104 q104
   obtain rfl : ad102 = ad104 := (by injection e104)
   replace hx104_0 := (HB.out.cell (World.block_lt_of_cell? w _ hx104_0)).trans hx104_0; replace hx104_1 := (HB.out.cell (World.block_lt_of_cell? w _ hx104_1)).trans hx104_1; replace p104 := eq_true p104; replace q104 := eq_true q104; have q25 : ((wrap64 (((rd_T84 l1 x6_1).f1) + 1)) : Int) ≤ ((l0.length : Int) : Int) := oD; obtain ⟨i025, hi025, _, hsz25, _⟩ := info_parts info73; have hroom25 : l0.length ≤ c0 := HC0.out; have hC25 : Kd.C k73 _ A0 l0.length l0 := HR0.out; have ql25 : (((rd_T84 l1 x6_1).f0) : Int) ≤ ((wrap64 (((rd_T84 l1 x6_1).f1) + 1)) : Int) := oD; have q025 : (0 : Int) ≤ (((rd_T84 l1 x6_1).f0) : Int) := oD; have hcut25 := cut_mid (P := Try.prog) 30 73 .i64 .i64 Try.underlying30 hi025 3 hsz25 A0 l0.length c0 ((rd_T84 l1 x6_1).f0) (wrap64 (((rd_T84 l1 x6_1).f1) + 1)) q025 ql25 q25 hroom25
   have hr25 := Kd.C_mid (lo := (((rd_T84 l1 x6_1).f0) : Int).toNat) (hi := ((wrap64 (((rd_T84 l1 x6_1).f1) + 1)) : Int).toNat) (c := c0) hC25 (by omega) (by omega) hroom25
   obtain ⟨A25, hA25⟩ : ∃ A1, A1 = (if c0 = (((rd_T84 l1 x6_1).f0) : Int).toNat then A0 else (A0 : Option Addr).map (·.add ((((rd_T84 l1 x6_1).f0) : Int).toNat * 3))) := ⟨_, rfl⟩
   obtain ⟨c25, hc25⟩ : ∃ c1, c1 = c0 - (((rd_T84 l1 x6_1).f0) : Int).toNat := ⟨_, rfl⟩
   have hy25 : y105.length = ((wrap64 (((rd_T84 l1 x6_1).f1) + 1)) : Int).toNat - (((rd_T84 l1 x6_1).f0) : Int).toNat := (by rw [Ny105.out, List.length_drop, List.length_take] <;> omega)
   rw [show ((l0).take ((wrap64 (((rd_T84 l1 x6_1).f1) + 1)) : Int).toNat).drop (((rd_T84 l1 x6_1).f0) : Int).toNat = y105 from Ny105.out.symm] at hr25
   replace hr25 : Kd.C k73 _ A25 y105.length y105 := (by rw [hA25]; exact hr25)
   rw [← hy25, ← hA25, ← hc25] at hcut25; have HR108 := A_ hr25
   have HC108 := A_ (show y105.length ≤ c25 from by rw [hy25, hc25]; exact Nat.sub_le_sub_right (Nat.le_trans (by omega) hroom25) _)
   clear hr25 hC25 hroom25 hi025 hsz25 hc25; have KY25 := A_ hy25; have KA25 := A_ hA25; clear hy25 hA25; replace q25 := eq_true q25
   go_wp2_with (first | (go_at_call 25; (with_reducible refine (dropperref03_Some.calls k1 _ _ y105 false _ ?side1 ?side2 A21.out).mono ?_); (case side1 => exact cU (Kd.C_below HR108.out HB.out)); (case side2 => exact HC108.out); rintro e w26 ⟨rfl, hb⟩; have n0_ := A_ (below_step (bW0 HB.out) hb); clear HB; have HB := n0_; clear n0_; (try clear hb)))
   repeat (go_quiet (first | (go_at_call 25; (with_reducible refine (dropperref03_Some.calls k1 _ _ y105 false _ ?side1 ?side2 A21.out).mono ?_); (case side1 => exact cU (Kd.C_below HR108.out HB.out)); (case side2 => exact HC108.out); rintro e w26 ⟨rfl, hb⟩; have n0_ := A_ (below_step (bW0 HB.out) hb); clear HB; have HB := n0_; clear n0_; (try clear hb))); try go_wp2_with (first | (go_at_call 25; (with_reducible refine (dropperref03_Some.calls k1 _ _ y105 false _ ?side1 ?side2 A21.out).mono ?_); (case side1 => exact cU (Kd.C_below HR108.out HB.out)); (case side2 => exact HC108.out); rintro e w26 ⟨rfl, hb⟩; have n0_ := A_ (below_step (bW0 HB.out) hb); clear HB; have HB := n0_; clear n0_; (try clear hb))))
   go_roundg k1
   case measure => have := HK1.out; omega
   case rel => exact ⟨(wrap64 (x6_1 + 1)), eS, H', ⟨by have := HK1.out; omega⟩, ⟨by repeat (first | (with_reducible first | exact HB.out | apply below_alloc | apply pw_below_drewN | apply below_drew1) | exact HB.out)⟩⟩
end Go.Proofs.Ytiapmkndgalgnaa.G
