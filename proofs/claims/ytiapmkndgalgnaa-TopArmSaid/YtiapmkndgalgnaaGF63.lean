-- Written by this session's driver (wip/tools/printmore.py) over the kit's print, with hand-written parts.
import Derived.Test.YtiapmkndgalgnaaGBase
import Derived.Test.YtiapmkndgalgnaaGF51
namespace Go.Proofs.Ytiapmkndgalgnaa.G
open Go.RowKit Go.Proofs.YtiapmkndgalgnaaW.PrintWords Go.Proofs.YtiapmkndgalgnaaW.PrintLast Go.Proofs.YtiapmkndgalgnaaW.PrintMore
attribute [local go_sem] max2_int min2_int max_two min_two max_three min_three max_four min_four   -- for this text's walks alone
set_option linter.unusedVariables false
set_option linter.unusedSimpArgs false

/-! ### arm_Through_1: function 63 -/
def arm_Through_1.f (a0_0 : Int) (a0_1 : Int) (a0_2 : Int) (a1_0 : Int) (a1_1 : Int) (a1_2 : Int) : Option (Bool) := (arm_within.f (wrap64 (a0_1 * a1_2)) (wrap64 ((wrap64 (a1_0 * a0_0)) + a1_1)) (wrap64 (a0_2 * a1_2))).bind fun t102 => (some (!t102))
set_option maxHeartbeats 8000000 in
set_option maxRecDepth 100000 in
theorem arm_Through_1.calls (a0_0 : Int) (a0_1 : Int) (a0_2 : Int) (b1 : Nat) (a1_0 : Int) (a1_1 : Int) (a1_2 : Int) (r : Bool) (w : World) (hbk1 : w.heap[b1]? = some (.cells #[.int .i64 a1_0, .int .i64 a1_1, .int .i64 a1_2] 41 (0, 0))) (h : arm_Through_1.f a0_0 a0_1 a0_2 a1_0 a1_1 a1_2 = some r) :
  Calls Try.prog 63 #[.agg #[.int .i64 a0_0, .int .i64 a0_1, .int .i64 a0_2], .pointer (some ⟨b1, 0, none⟩)] w fun e w' => e = .returned (.bool r) ∧ Below w.heap.size w w' := by
 have hu73 := Try.underlying73
 have BK1 := A_ hbk1
 clear hbk1
 have HB := A_ (Below.refl w.heap.size w)
 have H : ((arm_within.f (wrap64 (a0_1 * a1_2)) (wrap64 ((wrap64 (a1_0 * a0_0)) + a1_1)) (wrap64 (a0_2 * a1_2))).bind fun t102 => (some (!t102))) = some r := h
 clear h
 replace H := Option.bind_eq_some_iff.mp H
 obtain ⟨t102, A30, H⟩ := H
 replace H : (some (!t102)) = some r := H
 have A3 := A_ A30
 clear A30
 obtain rfl := Option.some.inj H
 go_enter Try.func63, Try.ntmps63
 go_wp2_with (first | ((with_reducible refine gate_dst (N := 2) rfl ?_); refine bxW 2 (cs := #[.int .i64 a0_0, .int .i64 a0_1, .int .i64 a0_2]) (t := 73) ?_; intro gb101 hg w4 hbox hb; have n0_ := A_ (blk_below (g := b1) (o := .cells #[.int .i64 a1_0, .int .i64 a1_1, .int .i64 a1_2] 41 (0, 0)) (bkU BK1) hb); have n1_ := A_ (below_step (bW0 HB.out) hb); have n2_ := A_ (hbox); have n3_ := A_ ((szG hg (bW0 HB.out))); have n4_ := A_ ((szG hg (bW0 HB.out))); have n5_ := A_ ((by rw [hg]; exact Nat.ne_of_lt (blk_lt (g := b1) (o := .cells #[.int .i64 a1_0, .int .i64 a1_1, .int .i64 a1_2] 41 (0, 0)) (bkU BK1)) : b1 ≠ gb101)); have n6_ := A_ ((by rw [hg]; exact Nat.ne_of_gt (blk_lt (g := b1) (o := .cells #[.int .i64 a1_0, .int .i64 a1_1, .int .i64 a1_2] 41 (0, 0)) (bkU BK1)) : gb101 ≠ b1)); clear BK1; clear HB; have BK1 := n0_; have HB := n1_; have BK101 := n2_; have GW101 := n3_; have GE101 := n4_; have NB1_101 := n5_; have NB101_1 := n6_; clear n0_ n1_ n2_ n3_ n4_ n5_ n6_; clear hb hbox hg; have hnb5 := NB101_1.out; have hnc5 := NB1_101.out; have hcz6_0 : w4.cell? ⟨gb101, 0, none⟩ = some (.int .i64 a0_0) := (blk_cell BK101.out 0).trans rfl; have hcz6_1 : w4.cell? ⟨gb101, 1, none⟩ = some (.int .i64 a0_1) := (blk_cell BK101.out 1).trans rfl; have hcz6_2 : w4.cell? ⟨gb101, 2, none⟩ = some (.int .i64 a0_2) := (blk_cell BK101.out 2).trans rfl; have hfz6_0 := blk_frozen BK101.out 0; have hfz6_1 := blk_frozen BK101.out 1; have hfz6_2 := blk_frozen BK101.out 2; have hcz7_0 : w4.cell? ⟨b1, 0, none⟩ = some (.int .i64 a1_0) := (blk_cell BK1.out 0).trans rfl; have hcz7_1 : w4.cell? ⟨b1, 1, none⟩ = some (.int .i64 a1_1) := (blk_cell BK1.out 1).trans rfl; have hcz7_2 : w4.cell? ⟨b1, 2, none⟩ = some (.int .i64 a1_2) := (blk_cell BK1.out 2).trans rfl; have hfz7_0 := blk_frozen BK1.out 0; have hfz7_1 := blk_frozen BK1.out 1; have hfz7_2 := blk_frozen BK1.out 2) | ((with_reducible refine gate_callee (f := 51) rfl ?_); refine goesW_ (some 22) Try.func51 #[.int .i64 (wrap64 (a0_1 * a1_2)), .int .i64 (wrap64 ((wrap64 (a1_0 * a0_0)) + a1_1)), .int .i64 (wrap64 (a0_2 * a1_2))] ?_; (with_reducible refine (arm_within.calls (wrap64 (a0_1 * a1_2)) (wrap64 ((wrap64 (a1_0 * a0_0)) + a1_1)) (wrap64 (a0_2 * a1_2)) t102 _ A3.out).mono ?_); rintro e w' ⟨rfl, ⟨nd, rfl⟩⟩; refine ⟨_, rfl, ?_⟩))
 go_ret
 exact ⟨eQ, by repeat (first | (with_reducible first | exact HB.out | apply below_alloc | apply pw_below_drewN | apply below_drew1 | refine below_set ?_ GE1.out | refine below_set ?_ GE101.out) | exact HB.out)⟩

end Go.Proofs.Ytiapmkndgalgnaa.G
