-- Written by this session's driver (wip/tools/printmore.py) over the kit's print, with hand-written parts.
import Derived.Test.YtiapmkndgalgnaaGBase
import Derived.Test.YtiapmkndgalgnaaGF23
import Derived.Test.YtiapmkndgalgnaaGF53
namespace Go.Proofs.Ytiapmkndgalgnaa.G
open Go.RowKit Go.Proofs.YtiapmkndgalgnaaW.PrintWords Go.Proofs.YtiapmkndgalgnaaW.PrintLast Go.Proofs.YtiapmkndgalgnaaW.PrintMore
attribute [local go_sem] max2_int min2_int max_two min_two max_three min_three max_four min_four   -- for this text's walks alone
set_option linter.unusedVariables false
set_option linter.unusedSimpArgs false

/-! ### arm_Forbids: function 18 -/
def arm_Forbids.f (k : Nat) (l0 : List (S73)) (a1_0 : Int) (a1_1 : Int) (a1_2 : Int) : Option (Bool × Int) := (arm_Valid.f k l0).bind fun t102 => (if t102 = true then (if a1_0 < 0 then (some (false, 2)) else (if a1_0 ≥ a1_1 then (some (false, 2)) else (if a1_1 ≥ a1_2 then (some (false, 2)) else (if a1_2 ≥ (l0.length : Int) then (some (false, 2)) else ((arm_forbids.f k l0 a1_0 a1_1 a1_2).bind fun t103 => (some (t103, 0))))))) else (some (false, 20)))
theorem arm_Forbids.mono : ∀ a0 a1 a2 a3 k, LeO (arm_Forbids.f k a0 a1 a2 a3) (arm_Forbids.f (k + 1) a0 a1 a2 a3) := by
 intro a0 a1 a2 a3 k
 unfold arm_Forbids.f
 repeat' first
   | (with_reducible exact arm_Valid.mono _ _)
   | (with_reducible exact arm_forbids.mono _ _ _ _ _)
   | (with_reducible exact LeO.refl _)
   | (with_reducible exact LeO.none _)
   | (with_reducible refine LeO.ite ?_ ?_)
   | (with_reducible refine LeO.bind ?_ (fun _ => ?_))
   | exact arm_Valid.mono _ _
   | exact arm_forbids.mono _ _ _ _ _
   | exact LeO.none _
   | refine LeO.ite ?_ ?_
   | refine LeO.bind ?_ (fun _ => ?_)
set_option maxHeartbeats 8000000 in
set_option maxRecDepth 100000 in
theorem arm_Forbids.calls (k : Nat) (A0 : Option Addr) (c0 : Nat) (l0 : List (S73)) (a1_0 : Int) (a1_1 : Int) (a1_2 : Int) (r1 : Bool) (r2 : Int) (w : World) (hr0 : Kd.C k73 w A0 l0.length l0) (hc0 : l0.length ≤ c0) (h : arm_Forbids.f k l0 a1_0 a1_1 a1_2 = some (r1, r2)) :
  Calls Try.prog 18 #[.slice A0 l0.length c0, .agg #[.int .i64 a1_0, .int .i64 a1_1, .int .i64 a1_2]] w fun e w' => e = .returned (.tuple #[.bool r1, .int .i64 r2]) ∧ Below w.heap.size w w' := by
 have hu31 := Try.underlying31
 have HR0 := A_ hr0
 have HC0 := A_ hc0
 clear hr0 hc0
 have HB := A_ (Below.refl w.heap.size w)
 have H : ((arm_Valid.f k l0).bind fun t102 => (if t102 = true then (if a1_0 < 0 then (some (false, 2)) else (if a1_0 ≥ a1_1 then (some (false, 2)) else (if a1_1 ≥ a1_2 then (some (false, 2)) else (if a1_2 ≥ (l0.length : Int) then (some (false, 2)) else ((arm_forbids.f k l0 a1_0 a1_1 a1_2).bind fun t103 => (some (t103, 0))))))) else (some (false, 20)))) = some (r1, r2) := h
 clear h
 replace H := Option.bind_eq_some_iff.mp H
 obtain ⟨t102, A30, H⟩ := H
 replace H : (if t102 = true then (if a1_0 < 0 then (some (false, 2)) else (if a1_0 ≥ a1_1 then (some (false, 2)) else (if a1_1 ≥ a1_2 then (some (false, 2)) else (if a1_2 ≥ (l0.length : Int) then (some (false, 2)) else ((arm_forbids.f k l0 a1_0 a1_1 a1_2).bind fun t103 => (some (t103, 0))))))) else (some (false, 20))) = some (r1, r2) := H
 have A3 := A_ A30
 clear A30
 by_cases c4 : t102 = true
 rotate_left
 ·replace c4 := Bool.eq_false_iff.mpr c4
  subst c4
  have H1 : (some (false, 20)) = some (r1, r2) := by rw [if_neg (show ¬ (false = true) by decide)] at H; exact H
  clear H
  have H := H1
  clear H1
  simp only [Option.some.injEq, Prod.mk.injEq] at H
  obtain ⟨rfl, rfl⟩ := H
  go_enter Try.func18, Try.ntmps18
  go_wp2_with (first | ((with_reducible refine gate_dst (N := 3) rfl ?_); (try (refine gate_guard (by rfl) ?_; dsimp only)); refine bxW 3 (cs := #[.int .i64 a1_0, .int .i64 a1_1, .int .i64 a1_2]) (t := 31) ?_; intro gb101 hg w26 hbox hb; have n0_ := A_ (below_step (bW0 HB.out) hb); have n1_ := A_ (hbox); have n2_ := A_ ((szG hg (bW0 HB.out))); have n3_ := A_ ((szG hg (bW0 HB.out))); clear HB; have HB := n0_; have BK101 := n1_; have GW101 := n2_; have GE101 := n3_; clear n0_ n1_ n2_ n3_; clear hb hbox hg) | ((with_reducible refine gate_callee (f := 23) rfl ?_); refine goesW_ (some 8) Try.func23 #[.slice A0 l0.length c0] ?_; (with_reducible refine (arm_Valid.calls k _ _ l0 false _ ?side1 ?side2 A3.out).mono ?_); (case side1 => exact cU (Kd.C_below HR0.out HB.out)); (case side2 => exact HC0.out); rintro e w27 ⟨rfl, hb⟩; refine ⟨_, rfl, ?_⟩; have n0_ := A_ (bkB BK101 hb); have n1_ := A_ (below_step (bW1 HB.out GE101.out) hb); clear BK101; clear HB; have BK101 := n0_; have HB := n1_; clear n0_ n1_; (try clear hb)))
  go_ret2
  exact ⟨eQ, by repeat (first | (with_reducible first | exact HB.out | apply below_alloc | apply pw_below_drewN | apply below_drew1 | refine below_set ?_ GE101.out) | exact HB.out)⟩

 subst c4
 have H1 : (if a1_0 < 0 then (some (false, 2)) else (if a1_0 ≥ a1_1 then (some (false, 2)) else (if a1_1 ≥ a1_2 then (some (false, 2)) else (if a1_2 ≥ (l0.length : Int) then (some (false, 2)) else ((arm_forbids.f k l0 a1_0 a1_1 a1_2).bind fun t103 => (some (t103, 0))))))) = some (r1, r2) := by rw [if_pos rfl] at H; exact H
 clear H
 have H := H1
 clear H1
 by_cases c5 : a1_0 < 0
 ·rw [if_pos c5] at H
  have c5b0 : decide (a1_0 < 0) = true := decide_eq_true c5
  clear c5
  simp only [Option.some.injEq, Prod.mk.injEq] at H
  obtain ⟨rfl, rfl⟩ := H
  go_enter Try.func18, Try.ntmps18
  go_wp2_with (first | ((with_reducible refine gate_dst (N := 3) rfl ?_); (try (refine gate_guard (by rfl) ?_; dsimp only)); refine bxW 3 (cs := #[.int .i64 a1_0, .int .i64 a1_1, .int .i64 a1_2]) (t := 31) ?_; intro gb101 hg w6 hbox hb; have n0_ := A_ (below_step (bW0 HB.out) hb); have n1_ := A_ (hbox); have n2_ := A_ ((szG hg (bW0 HB.out))); have n3_ := A_ ((szG hg (bW0 HB.out))); clear HB; have HB := n0_; have BK101 := n1_; have GW101 := n2_; have GE101 := n3_; clear n0_ n1_ n2_ n3_; clear hb hbox hg) | ((with_reducible refine gate_callee (f := 23) rfl ?_); refine goesW_ (some 8) Try.func23 #[.slice A0 l0.length c0] ?_; (with_reducible refine (arm_Valid.calls k _ _ l0 true _ ?side1 ?side2 A3.out).mono ?_); (case side1 => exact cU (Kd.C_below HR0.out HB.out)); (case side2 => exact HC0.out); rintro e w7 ⟨rfl, hb⟩; refine ⟨_, rfl, ?_⟩; have n0_ := A_ (bkB BK101 hb); have n1_ := A_ (below_step (bW1 HB.out GE101.out) hb); clear BK101; clear HB; have BK101 := n0_; have HB := n1_; clear n0_ n1_; (try clear hb); have hcz8_0 : w7.cell? ⟨gb101, 0, none⟩ = some (.int .i64 a1_0) := (blk_cell BK101.out 0).trans rfl; have hcz8_1 : w7.cell? ⟨gb101, 1, none⟩ = some (.int .i64 a1_1) := (blk_cell BK101.out 1).trans rfl; have hcz8_2 : w7.cell? ⟨gb101, 2, none⟩ = some (.int .i64 a1_2) := (blk_cell BK101.out 2).trans rfl; have hfz8_0 := blk_frozen BK101.out 0; have hfz8_1 := blk_frozen BK101.out 1; have hfz8_2 := blk_frozen BK101.out 2))
  go_ret2
  exact ⟨eQ, by repeat (first | (with_reducible first | exact HB.out | apply below_alloc | apply pw_below_drewN | apply below_drew1 | refine below_set ?_ GE101.out) | exact HB.out)⟩
 rw [if_neg c5] at H
 have c5b0 : decide (a1_0 < 0) = false := decide_eq_false c5
 clear c5
 by_cases c9 : a1_0 ≥ a1_1
 ·rw [if_pos c9] at H
  have c9b0 : decide (a1_1 ≤ a1_0) = true := decide_eq_true c9
  clear c9
  simp only [Option.some.injEq, Prod.mk.injEq] at H
  obtain ⟨rfl, rfl⟩ := H
  go_enter Try.func18, Try.ntmps18
  go_wp2_with (first | ((with_reducible refine gate_dst (N := 3) rfl ?_); (try (refine gate_guard (by rfl) ?_; dsimp only)); refine bxW 3 (cs := #[.int .i64 a1_0, .int .i64 a1_1, .int .i64 a1_2]) (t := 31) ?_; intro gb101 hg w10 hbox hb; have n0_ := A_ (below_step (bW0 HB.out) hb); have n1_ := A_ (hbox); have n2_ := A_ ((szG hg (bW0 HB.out))); have n3_ := A_ ((szG hg (bW0 HB.out))); clear HB; have HB := n0_; have BK101 := n1_; have GW101 := n2_; have GE101 := n3_; clear n0_ n1_ n2_ n3_; clear hb hbox hg) | ((with_reducible refine gate_callee (f := 23) rfl ?_); refine goesW_ (some 8) Try.func23 #[.slice A0 l0.length c0] ?_; (with_reducible refine (arm_Valid.calls k _ _ l0 true _ ?side1 ?side2 A3.out).mono ?_); (case side1 => exact cU (Kd.C_below HR0.out HB.out)); (case side2 => exact HC0.out); rintro e w11 ⟨rfl, hb⟩; refine ⟨_, rfl, ?_⟩; have n0_ := A_ (bkB BK101 hb); have n1_ := A_ (below_step (bW1 HB.out GE101.out) hb); clear BK101; clear HB; have BK101 := n0_; have HB := n1_; clear n0_ n1_; (try clear hb); have hcz12_0 : w11.cell? ⟨gb101, 0, none⟩ = some (.int .i64 a1_0) := (blk_cell BK101.out 0).trans rfl; have hcz12_1 : w11.cell? ⟨gb101, 1, none⟩ = some (.int .i64 a1_1) := (blk_cell BK101.out 1).trans rfl; have hcz12_2 : w11.cell? ⟨gb101, 2, none⟩ = some (.int .i64 a1_2) := (blk_cell BK101.out 2).trans rfl; have hfz12_0 := blk_frozen BK101.out 0; have hfz12_1 := blk_frozen BK101.out 1; have hfz12_2 := blk_frozen BK101.out 2))
  go_ret2
  exact ⟨eQ, by repeat (first | (with_reducible first | exact HB.out | apply below_alloc | apply pw_below_drewN | apply below_drew1 | refine below_set ?_ GE101.out) | exact HB.out)⟩
 rw [if_neg c9] at H
 have c9b0 : decide (a1_1 ≤ a1_0) = false := decide_eq_false c9
 clear c9
 by_cases c13 : a1_1 ≥ a1_2
 ·rw [if_pos c13] at H
  have c13b0 : decide (a1_2 ≤ a1_1) = true := decide_eq_true c13
  clear c13
  simp only [Option.some.injEq, Prod.mk.injEq] at H
  obtain ⟨rfl, rfl⟩ := H
  go_enter Try.func18, Try.ntmps18
  go_wp2_with (first | ((with_reducible refine gate_dst (N := 3) rfl ?_); (try (refine gate_guard (by rfl) ?_; dsimp only)); refine bxW 3 (cs := #[.int .i64 a1_0, .int .i64 a1_1, .int .i64 a1_2]) (t := 31) ?_; intro gb101 hg w14 hbox hb; have n0_ := A_ (below_step (bW0 HB.out) hb); have n1_ := A_ (hbox); have n2_ := A_ ((szG hg (bW0 HB.out))); have n3_ := A_ ((szG hg (bW0 HB.out))); clear HB; have HB := n0_; have BK101 := n1_; have GW101 := n2_; have GE101 := n3_; clear n0_ n1_ n2_ n3_; clear hb hbox hg) | ((with_reducible refine gate_callee (f := 23) rfl ?_); refine goesW_ (some 8) Try.func23 #[.slice A0 l0.length c0] ?_; (with_reducible refine (arm_Valid.calls k _ _ l0 true _ ?side1 ?side2 A3.out).mono ?_); (case side1 => exact cU (Kd.C_below HR0.out HB.out)); (case side2 => exact HC0.out); rintro e w15 ⟨rfl, hb⟩; refine ⟨_, rfl, ?_⟩; have n0_ := A_ (bkB BK101 hb); have n1_ := A_ (below_step (bW1 HB.out GE101.out) hb); clear BK101; clear HB; have BK101 := n0_; have HB := n1_; clear n0_ n1_; (try clear hb); have hcz16_0 : w15.cell? ⟨gb101, 0, none⟩ = some (.int .i64 a1_0) := (blk_cell BK101.out 0).trans rfl; have hcz16_1 : w15.cell? ⟨gb101, 1, none⟩ = some (.int .i64 a1_1) := (blk_cell BK101.out 1).trans rfl; have hcz16_2 : w15.cell? ⟨gb101, 2, none⟩ = some (.int .i64 a1_2) := (blk_cell BK101.out 2).trans rfl; have hfz16_0 := blk_frozen BK101.out 0; have hfz16_1 := blk_frozen BK101.out 1; have hfz16_2 := blk_frozen BK101.out 2))
  go_ret2
  exact ⟨eQ, by repeat (first | (with_reducible first | exact HB.out | apply below_alloc | apply pw_below_drewN | apply below_drew1 | refine below_set ?_ GE101.out) | exact HB.out)⟩
 rw [if_neg c13] at H
 have c13b0 : decide (a1_2 ≤ a1_1) = false := decide_eq_false c13
 clear c13
 by_cases c17 : a1_2 ≥ (l0.length : Int)
 ·rw [if_pos c17] at H
  have c17b0 : decide ((l0.length : Int) ≤ a1_2) = true := decide_eq_true c17
  clear c17
  simp only [Option.some.injEq, Prod.mk.injEq] at H
  obtain ⟨rfl, rfl⟩ := H
  go_enter Try.func18, Try.ntmps18
  go_wp2_with (first | ((with_reducible refine gate_dst (N := 3) rfl ?_); (try (refine gate_guard (by rfl) ?_; dsimp only)); refine bxW 3 (cs := #[.int .i64 a1_0, .int .i64 a1_1, .int .i64 a1_2]) (t := 31) ?_; intro gb101 hg w18 hbox hb; have n0_ := A_ (below_step (bW0 HB.out) hb); have n1_ := A_ (hbox); have n2_ := A_ ((szG hg (bW0 HB.out))); have n3_ := A_ ((szG hg (bW0 HB.out))); clear HB; have HB := n0_; have BK101 := n1_; have GW101 := n2_; have GE101 := n3_; clear n0_ n1_ n2_ n3_; clear hb hbox hg) | ((with_reducible refine gate_callee (f := 23) rfl ?_); refine goesW_ (some 8) Try.func23 #[.slice A0 l0.length c0] ?_; (with_reducible refine (arm_Valid.calls k _ _ l0 true _ ?side1 ?side2 A3.out).mono ?_); (case side1 => exact cU (Kd.C_below HR0.out HB.out)); (case side2 => exact HC0.out); rintro e w19 ⟨rfl, hb⟩; refine ⟨_, rfl, ?_⟩; have n0_ := A_ (bkB BK101 hb); have n1_ := A_ (below_step (bW1 HB.out GE101.out) hb); clear BK101; clear HB; have BK101 := n0_; have HB := n1_; clear n0_ n1_; (try clear hb); have hcz20_0 : w19.cell? ⟨gb101, 0, none⟩ = some (.int .i64 a1_0) := (blk_cell BK101.out 0).trans rfl; have hcz20_1 : w19.cell? ⟨gb101, 1, none⟩ = some (.int .i64 a1_1) := (blk_cell BK101.out 1).trans rfl; have hcz20_2 : w19.cell? ⟨gb101, 2, none⟩ = some (.int .i64 a1_2) := (blk_cell BK101.out 2).trans rfl; have hfz20_0 := blk_frozen BK101.out 0; have hfz20_1 := blk_frozen BK101.out 1; have hfz20_2 := blk_frozen BK101.out 2))
  go_ret2
  exact ⟨eQ, by repeat (first | (with_reducible first | exact HB.out | apply below_alloc | apply pw_below_drewN | apply below_drew1 | refine below_set ?_ GE101.out) | exact HB.out)⟩
 rw [if_neg c17] at H
 have c17b0 : decide ((l0.length : Int) ≤ a1_2) = false := decide_eq_false c17
 clear c17
 replace H := Option.bind_eq_some_iff.mp H
 obtain ⟨t103, A210, H⟩ := H
 replace H : (some (t103, 0)) = some (r1, r2) := H
 have A21 := A_ A210
 clear A210
 simp only [Option.some.injEq, Prod.mk.injEq] at H
 obtain ⟨rfl, rfl⟩ := H
 go_enter Try.func18, Try.ntmps18
 go_wp2_with (first | ((with_reducible refine gate_dst (N := 3) rfl ?_); (try (refine gate_guard (by rfl) ?_; dsimp only)); refine bxW 3 (cs := #[.int .i64 a1_0, .int .i64 a1_1, .int .i64 a1_2]) (t := 31) ?_; intro gb101 hg w22 hbox hb; have n0_ := A_ (below_step (bW0 HB.out) hb); have n1_ := A_ (hbox); have n2_ := A_ ((szG hg (bW0 HB.out))); have n3_ := A_ ((szG hg (bW0 HB.out))); clear HB; have HB := n0_; have BK101 := n1_; have GW101 := n2_; have GE101 := n3_; clear n0_ n1_ n2_ n3_; clear hb hbox hg) | ((with_reducible refine gate_callee (f := 23) rfl ?_); refine goesW_ (some 8) Try.func23 #[.slice A0 l0.length c0] ?_; (with_reducible refine (arm_Valid.calls k _ _ l0 true _ ?side1 ?side2 A3.out).mono ?_); (case side1 => exact cU (Kd.C_below HR0.out HB.out)); (case side2 => exact HC0.out); rintro e w23 ⟨rfl, hb⟩; refine ⟨_, rfl, ?_⟩; have n0_ := A_ (bkB BK101 hb); have n1_ := A_ (below_step (bW1 HB.out GE101.out) hb); clear BK101; clear HB; have BK101 := n0_; have HB := n1_; clear n0_ n1_; (try clear hb); have hcz24_0 : w23.cell? ⟨gb101, 0, none⟩ = some (.int .i64 a1_0) := (blk_cell BK101.out 0).trans rfl; have hcz24_1 : w23.cell? ⟨gb101, 1, none⟩ = some (.int .i64 a1_1) := (blk_cell BK101.out 1).trans rfl; have hcz24_2 : w23.cell? ⟨gb101, 2, none⟩ = some (.int .i64 a1_2) := (blk_cell BK101.out 2).trans rfl; have hfz24_0 := blk_frozen BK101.out 0; have hfz24_1 := blk_frozen BK101.out 1; have hfz24_2 := blk_frozen BK101.out 2) | ((with_reducible refine gate_callee (f := 53) rfl ?_); refine goesW_ (some 37) Try.func53 #[.slice A0 l0.length c0, .agg #[.int .i64 a1_0, .int .i64 a1_1, .int .i64 a1_2]] ?_; (with_reducible refine (arm_forbids.calls k _ _ l0 a1_0 a1_1 a1_2 t103 _ ?side1 ?side2 A21.out).mono ?_); (case side1 => exact cU (Kd.C_below HR0.out HB.out)); (case side2 => exact HC0.out); rintro e w25 ⟨rfl, hb⟩; refine ⟨_, rfl, ?_⟩; have n0_ := A_ (bkB BK101 hb); have n1_ := A_ (below_step (bW1 HB.out GE101.out) hb); clear BK101; clear HB; have BK101 := n0_; have HB := n1_; clear n0_ n1_; (try clear hb)))
 go_ret2
 exact ⟨eQ, by repeat (first | (with_reducible first | exact HB.out | apply below_alloc | apply pw_below_drewN | apply below_drew1 | refine below_set ?_ GE101.out) | exact HB.out)⟩
end Go.Proofs.Ytiapmkndgalgnaa.G
