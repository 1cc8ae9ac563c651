-- Written by this session's driver (wip/tools/printmore.py) over the kit's print, with hand-written parts.
import Derived.Test.YtiapmkndgalgnaaGBase
import Derived.Test.YtiapmkndgalgnaaGF58
namespace Go.Proofs.Ytiapmkndgalgnaa.G
open Go.RowKit Go.Proofs.YtiapmkndgalgnaaW.PrintWords Go.Proofs.YtiapmkndgalgnaaW.PrintLast Go.Proofs.YtiapmkndgalgnaaW.PrintMore
attribute [local go_sem] max2_int min2_int max_two min_two max_three min_three max_four min_four   -- for this text's walks alone
set_option linter.unusedVariables false
set_option linter.unusedSimpArgs false

/-! ### arm_AreBlocks_1: function 71 -/
def arm_AreBlocks_1.f (k : Nat) (a0_0 : Int) (a0_1 : Int) (a1_0 : Int) (l2_0 : List (S73)) : Option (Bool × Int) := if a0_0 < a1_0 then (some (true, a1_0)) else (if a0_0 ≥ a0_1 then (some (true, a1_0)) else (if a0_1 ≥ (l2_0.length : Int) then (some (true, a1_0)) else (if 0 ≤ a0_0 then (if a0_0 ≤ (wrap64 (a0_1 + 1)) then (if (wrap64 (a0_1 + 1)) ≤ (l2_0.length : Int) then ((arm_can.f k ((l2_0.take ((wrap64 (a0_1 + 1)) : Int).toNat).drop (a0_0 : Int).toNat)).bind fun t106 => (if t106 = true then (some (true, a1_0)) else (some (false, a0_1)))) else (none)) else (none)) else (none))))
theorem arm_AreBlocks_1.mono : ∀ a0 a1 a2 a3 k, LeO (arm_AreBlocks_1.f k a0 a1 a2 a3) (arm_AreBlocks_1.f (k + 1) a0 a1 a2 a3) := by
 intro a0 a1 a2 a3 k
 unfold arm_AreBlocks_1.f
 repeat' first
   | (with_reducible exact arm_can.mono _ _)
   | (with_reducible exact LeO.refl _)
   | (with_reducible exact LeO.none _)
   | (with_reducible refine LeO.ite ?_ ?_)
   | (with_reducible refine LeO.bind ?_ (fun _ => ?_))
   | exact arm_can.mono _ _
   | exact LeO.none _
   | refine LeO.ite ?_ ?_
   | refine LeO.bind ?_ (fun _ => ?_)
set_option maxHeartbeats 8000000 in
set_option maxRecDepth 100000 in
theorem arm_AreBlocks_1.calls (k : Nat) (a0_0 : Int) (a0_1 : Int) (b1 : Nat) (a1_0 : Int) (b2 : Nat) (A2_0 : Option Addr) (c2_0 : Nat) (l2_0 : List (S73)) (r : Bool) (en' : Int) (n0 : Nat) (w : World) (hn0 : n0 ≤ b1) (hnb : b1 ≠ b2) (hbk1 : w.heap[b1]? = some (.cells #[.int .i64 a1_0] 3 (0, 0))) (hbk2 : w.heap[b2]? = some (.cells #[.slice A2_0 l2_0.length c2_0] 30 (0, 0))) (hr2_0 : Kd.C k73 w A2_0 l2_0.length l2_0) (hc2_0 : l2_0.length ≤ c2_0) (h : arm_AreBlocks_1.f k a0_0 a0_1 a1_0 l2_0 = some (r, en')) :
  Calls Try.prog 71 #[.agg #[.int .i64 a0_0, .int .i64 a0_1], .pointer (some ⟨b1, 0, none⟩), .pointer (some ⟨b2, 0, none⟩)] w fun e w' => e = .returned (.bool r) ∧ Below n0 w w' ∧ w'.heap[b1]? = some (.cells #[.int .i64 en'] 3 (0, 0)) ∧ w'.heap[b2]? = some (.cells #[.slice A2_0 l2_0.length c2_0] 30 (0, 0)) := by
 have HN0 := A_ (Nat.le_trans hn0 (Nat.le_of_lt (blk_lt hbk1))); have HNB := A_ hn0; have HNE := A_ hnb.symm; clear hn0 hnb
 have hu84 := Try.underlying84
 have HR2_0 := A_ hr2_0
 have HC2_0 := A_ hc2_0
 clear hr2_0 hc2_0
 have BK1 := A_ hbk1
 clear hbk1
 have BK2 := A_ hbk2
 clear hbk2
 have HB := A_ (Below.refl w.heap.size w)
 have H : (if a0_0 < a1_0 then (some (true, a1_0)) else (if a0_0 ≥ a0_1 then (some (true, a1_0)) else (if a0_1 ≥ (l2_0.length : Int) then (some (true, a1_0)) else (if 0 ≤ a0_0 then (if a0_0 ≤ (wrap64 (a0_1 + 1)) then (if (wrap64 (a0_1 + 1)) ≤ (l2_0.length : Int) then ((arm_can.f k ((l2_0.take ((wrap64 (a0_1 + 1)) : Int).toNat).drop (a0_0 : Int).toNat)).bind fun t106 => (if t106 = true then (some (true, a1_0)) else (some (false, a0_1)))) else (none)) else (none)) else (none))))) = some (r, en') := h
 clear h
 by_cases c4 : a0_0 < a1_0
 ·rw [if_pos c4] at H
  have c4b0 : decide (a0_0 < a1_0) = true := decide_eq_true c4
  clear c4
  simp only [Option.some.injEq, Prod.mk.injEq] at H; obtain ⟨rfl, rfl⟩ := H
  go_enter Try.func71, Try.ntmps71
  go_wp2_with (first | ((with_reducible refine gate_dst (N := 3) rfl ?_); (try (refine gate_guard (by rfl) ?_; dsimp only)); refine bxW 3 (cs := #[.int .i64 a0_0, .int .i64 a0_1]) (t := 84) ?_; intro gb101 hg w5 hbox hb; have n0_ := A_ (blk_below (g := b1) (o := .cells #[.int .i64 a1_0] 3 (0, 0)) (bkU BK1) hb); have n1_ := A_ (blk_below (g := b2) (o := .cells #[.slice A2_0 l2_0.length c2_0] 30 (0, 0)) (bkU BK2) hb); have n2_ := A_ (below_step (bW0 HB.out) hb); have n3_ := A_ (hbox); have n4_ := A_ ((szG hg (bW0 HB.out))); have n5_ := A_ ((szG hg (bW0 HB.out))); have n6_ := A_ ((by rw [hg]; exact Nat.ne_of_lt (blk_lt (g := b1) (o := .cells #[.int .i64 a1_0] 3 (0, 0)) (bkU BK1)) : b1 ≠ gb101)); have n7_ := A_ ((by rw [hg]; exact Nat.ne_of_gt (blk_lt (g := b1) (o := .cells #[.int .i64 a1_0] 3 (0, 0)) (bkU BK1)) : gb101 ≠ b1)); have n8_ := A_ ((by rw [hg]; exact Nat.ne_of_lt (blk_lt (g := b2) (o := .cells #[.slice A2_0 l2_0.length c2_0] 30 (0, 0)) (bkU BK2)) : b2 ≠ gb101)); have n9_ := A_ ((by rw [hg]; exact Nat.ne_of_gt (blk_lt (g := b2) (o := .cells #[.slice A2_0 l2_0.length c2_0] 30 (0, 0)) (bkU BK2)) : gb101 ≠ b2)); clear BK1; clear BK2; clear HB; have BK1 := n0_; have BK2 := n1_; have HB := n2_; have BK101 := n3_; have GW101 := n4_; have GE101 := n5_; have NB1_101 := n6_; have NB101_1 := n7_; have NB2_101 := n8_; have NB101_2 := n9_; clear n0_ n1_ n2_ n3_ n4_ n5_ n6_ n7_ n8_ n9_; clear hb hbox hg; have hnb6 := NB101_1.out; have hnc6 := NB1_101.out; have hnb7 := NB101_2.out; have hnc7 := NB2_101.out; have hcz8_0 : w5.cell? ⟨gb101, 0, none⟩ = some (.int .i64 a0_0) := (blk_cell BK101.out 0).trans rfl; have hcz8_1 : w5.cell? ⟨gb101, 1, none⟩ = some (.int .i64 a0_1) := (blk_cell BK101.out 1).trans rfl; have hfz8_0 := blk_frozen BK101.out 0; have hfz8_1 := blk_frozen BK101.out 1; have hcz9_0 : w5.cell? ⟨b1, 0, none⟩ = some (.int .i64 a1_0) := (blk_cell BK1.out 0).trans rfl; have hfz9_0 := blk_frozen BK1.out 0))
  go_ret
  exact ⟨(by first | rfl | (simp [errW_none, errW_some] <;> rfl) | (simp [*, errW_none, errW_some] <;> rfl)), Below.mono (bW0 HB.out) HN0.out, BK1.out, BK2.out⟩
 rw [if_neg c4] at H
 have c4b0 : decide (a0_0 < a1_0) = false := decide_eq_false c4
 clear c4
 by_cases c10 : a0_0 ≥ a0_1
 ·rw [if_pos c10] at H
  have c10b0 : decide (a0_1 ≤ a0_0) = true := decide_eq_true c10
  clear c10
  simp only [Option.some.injEq, Prod.mk.injEq] at H; obtain ⟨rfl, rfl⟩ := H
  go_enter Try.func71, Try.ntmps71
  go_wp2_with (first | ((with_reducible refine gate_dst (N := 3) rfl ?_); (try (refine gate_guard (by rfl) ?_; dsimp only)); refine bxW 3 (cs := #[.int .i64 a0_0, .int .i64 a0_1]) (t := 84) ?_; intro gb101 hg w11 hbox hb; have n0_ := A_ (blk_below (g := b1) (o := .cells #[.int .i64 a1_0] 3 (0, 0)) (bkU BK1) hb); have n1_ := A_ (blk_below (g := b2) (o := .cells #[.slice A2_0 l2_0.length c2_0] 30 (0, 0)) (bkU BK2) hb); have n2_ := A_ (below_step (bW0 HB.out) hb); have n3_ := A_ (hbox); have n4_ := A_ ((szG hg (bW0 HB.out))); have n5_ := A_ ((szG hg (bW0 HB.out))); have n6_ := A_ ((by rw [hg]; exact Nat.ne_of_lt (blk_lt (g := b1) (o := .cells #[.int .i64 a1_0] 3 (0, 0)) (bkU BK1)) : b1 ≠ gb101)); have n7_ := A_ ((by rw [hg]; exact Nat.ne_of_gt (blk_lt (g := b1) (o := .cells #[.int .i64 a1_0] 3 (0, 0)) (bkU BK1)) : gb101 ≠ b1)); have n8_ := A_ ((by rw [hg]; exact Nat.ne_of_lt (blk_lt (g := b2) (o := .cells #[.slice A2_0 l2_0.length c2_0] 30 (0, 0)) (bkU BK2)) : b2 ≠ gb101)); have n9_ := A_ ((by rw [hg]; exact Nat.ne_of_gt (blk_lt (g := b2) (o := .cells #[.slice A2_0 l2_0.length c2_0] 30 (0, 0)) (bkU BK2)) : gb101 ≠ b2)); clear BK1; clear BK2; clear HB; have BK1 := n0_; have BK2 := n1_; have HB := n2_; have BK101 := n3_; have GW101 := n4_; have GE101 := n5_; have NB1_101 := n6_; have NB101_1 := n7_; have NB2_101 := n8_; have NB101_2 := n9_; clear n0_ n1_ n2_ n3_ n4_ n5_ n6_ n7_ n8_ n9_; clear hb hbox hg; have hnb12 := NB101_1.out; have hnc12 := NB1_101.out; have hnb13 := NB101_2.out; have hnc13 := NB2_101.out; have hcz14_0 : w11.cell? ⟨gb101, 0, none⟩ = some (.int .i64 a0_0) := (blk_cell BK101.out 0).trans rfl; have hcz14_1 : w11.cell? ⟨gb101, 1, none⟩ = some (.int .i64 a0_1) := (blk_cell BK101.out 1).trans rfl; have hfz14_0 := blk_frozen BK101.out 0; have hfz14_1 := blk_frozen BK101.out 1; have hcz15_0 : w11.cell? ⟨b1, 0, none⟩ = some (.int .i64 a1_0) := (blk_cell BK1.out 0).trans rfl; have hfz15_0 := blk_frozen BK1.out 0))
  go_ret
  exact ⟨(by first | rfl | (simp [errW_none, errW_some] <;> rfl) | (simp [*, errW_none, errW_some] <;> rfl)), Below.mono (bW0 HB.out) HN0.out, BK1.out, BK2.out⟩
 rw [if_neg c10] at H
 have c10b0 : decide (a0_1 ≤ a0_0) = false := decide_eq_false c10
 clear c10
 by_cases c16 : a0_1 ≥ (l2_0.length : Int)
 ·rw [if_pos c16] at H
  have c16b0 : decide ((l2_0.length : Int) ≤ a0_1) = true := decide_eq_true c16
  clear c16
  simp only [Option.some.injEq, Prod.mk.injEq] at H; obtain ⟨rfl, rfl⟩ := H
  go_enter Try.func71, Try.ntmps71
  go_wp2_with (first | ((with_reducible refine gate_dst (N := 3) rfl ?_); (try (refine gate_guard (by rfl) ?_; dsimp only)); refine bxW 3 (cs := #[.int .i64 a0_0, .int .i64 a0_1]) (t := 84) ?_; intro gb101 hg w17 hbox hb; have n0_ := A_ (blk_below (g := b1) (o := .cells #[.int .i64 a1_0] 3 (0, 0)) (bkU BK1) hb); have n1_ := A_ (blk_below (g := b2) (o := .cells #[.slice A2_0 l2_0.length c2_0] 30 (0, 0)) (bkU BK2) hb); have n2_ := A_ (below_step (bW0 HB.out) hb); have n3_ := A_ (hbox); have n4_ := A_ ((szG hg (bW0 HB.out))); have n5_ := A_ ((szG hg (bW0 HB.out))); have n6_ := A_ ((by rw [hg]; exact Nat.ne_of_lt (blk_lt (g := b1) (o := .cells #[.int .i64 a1_0] 3 (0, 0)) (bkU BK1)) : b1 ≠ gb101)); have n7_ := A_ ((by rw [hg]; exact Nat.ne_of_gt (blk_lt (g := b1) (o := .cells #[.int .i64 a1_0] 3 (0, 0)) (bkU BK1)) : gb101 ≠ b1)); have n8_ := A_ ((by rw [hg]; exact Nat.ne_of_lt (blk_lt (g := b2) (o := .cells #[.slice A2_0 l2_0.length c2_0] 30 (0, 0)) (bkU BK2)) : b2 ≠ gb101)); have n9_ := A_ ((by rw [hg]; exact Nat.ne_of_gt (blk_lt (g := b2) (o := .cells #[.slice A2_0 l2_0.length c2_0] 30 (0, 0)) (bkU BK2)) : gb101 ≠ b2)); clear BK1; clear BK2; clear HB; have BK1 := n0_; have BK2 := n1_; have HB := n2_; have BK101 := n3_; have GW101 := n4_; have GE101 := n5_; have NB1_101 := n6_; have NB101_1 := n7_; have NB2_101 := n8_; have NB101_2 := n9_; clear n0_ n1_ n2_ n3_ n4_ n5_ n6_ n7_ n8_ n9_; clear hb hbox hg; have hnb18 := NB101_1.out; have hnc18 := NB1_101.out; have hnb19 := NB101_2.out; have hnc19 := NB2_101.out; have hcz20_0 : w17.cell? ⟨gb101, 0, none⟩ = some (.int .i64 a0_0) := (blk_cell BK101.out 0).trans rfl; have hcz20_1 : w17.cell? ⟨gb101, 1, none⟩ = some (.int .i64 a0_1) := (blk_cell BK101.out 1).trans rfl; have hfz20_0 := blk_frozen BK101.out 0; have hfz20_1 := blk_frozen BK101.out 1; have hcz21_0 : w17.cell? ⟨b1, 0, none⟩ = some (.int .i64 a1_0) := (blk_cell BK1.out 0).trans rfl; have hfz21_0 := blk_frozen BK1.out 0; have hcz22_0 : w17.cell? ⟨b2, 0, none⟩ = some (.slice A2_0 l2_0.length c2_0) := (blk_cell BK2.out 0).trans rfl; have hfz22_0 := blk_frozen BK2.out 0))
  go_ret
  exact ⟨(by first | rfl | (simp [errW_none, errW_some] <;> rfl) | (simp [*, errW_none, errW_some] <;> rfl)), Below.mono (bW0 HB.out) HN0.out, BK1.out, BK2.out⟩
 rw [if_neg c16] at H
 have c16b0 : decide ((l2_0.length : Int) ≤ a0_1) = false := decide_eq_false c16
 clear c16
 by_cases c23 : 0 ≤ a0_0
 rotate_left
 ·rw [if_neg c23] at H
  exact absurd H (by simp)

 rw [if_pos c23] at H
 have c23b0 := eq_true c23
 have c23b1 : decide (0 ≤ a0_0) = true := decide_eq_true c23
 clear c23
 by_cases c24 : a0_0 ≤ (wrap64 (a0_1 + 1))
 rotate_left
 ·rw [if_neg c24] at H
  exact absurd H (by simp)
 rw [if_pos c24] at H
 have c24b0 := eq_true c24
 have c24b1 : decide (a0_0 ≤ (wrap64 (a0_1 + 1))) = true := decide_eq_true c24
 by_cases c25 : (wrap64 (a0_1 + 1)) ≤ (l2_0.length : Int)
 rotate_left
 ·rw [if_neg c25] at H
  exact absurd H (by simp)
 rw [if_pos c25] at H
 have c25b0 := eq_true c25
 have c25b1 : decide ((wrap64 (a0_1 + 1)) ≤ (l2_0.length : Int)) = true := decide_eq_true c25
 obtain ⟨y102, hy102⟩ : ∃ y_ : List (S73), y_ = ((l2_0.take ((wrap64 (a0_1 + 1)) : Int).toNat).drop (a0_0 : Int).toNat) := ⟨_, rfl⟩
 replace H : ((arm_can.f k y102).bind fun t106 => (if t106 = true then (some (true, a1_0)) else (some (false, a0_1)))) = some (r, en') := by first | (rw [hy102]; with_reducible exact H) | (have H2_ := (Option.bind_some _ _).symm.trans H; rw [hy102]; with_reducible exact H2_) | (have H2_ := (Option.bind_some _ _).symm.trans H; with_reducible exact H2_) | with_reducible exact H | (rw [hy102]; exact H) | exact H
 have Ny102 := A_ hy102
 clear hy102
 replace H := Option.bind_eq_some_iff.mp H
 obtain ⟨t106, A260, H⟩ := H
 replace H : (if t106 = true then (some (true, a1_0)) else (some (false, a0_1))) = some (r, en') := H
 have A26 := A_ A260
 clear A260
 by_cases c27 : t106 = true
 ·subst c27
  have H1 : (some (true, a1_0)) = some (r, en') := by rw [if_pos rfl] at H; exact H
  clear H
  have H := H1
  clear H1
  simp only [Option.some.injEq, Prod.mk.injEq] at H; obtain ⟨rfl, rfl⟩ := H
  go_enter Try.func71, Try.ntmps71
  go_wp2_with (first | ((with_reducible refine gate_dst (N := 3) rfl ?_); (try (refine gate_guard (by rfl) ?_; dsimp only)); refine bxW 3 (cs := #[.int .i64 a0_0, .int .i64 a0_1]) (t := 84) ?_; intro gb101 hg w28 hbox hb; have n0_ := A_ (blk_below (g := b1) (o := .cells #[.int .i64 a1_0] 3 (0, 0)) (bkU BK1) hb); have n1_ := A_ (blk_below (g := b2) (o := .cells #[.slice A2_0 l2_0.length c2_0] 30 (0, 0)) (bkU BK2) hb); have n2_ := A_ (below_step (bW0 HB.out) hb); have n3_ := A_ (hbox); have n4_ := A_ ((szG hg (bW0 HB.out))); have n5_ := A_ ((szG hg (bW0 HB.out))); have n6_ := A_ ((by rw [hg]; exact Nat.ne_of_lt (blk_lt (g := b1) (o := .cells #[.int .i64 a1_0] 3 (0, 0)) (bkU BK1)) : b1 ≠ gb101)); have n7_ := A_ ((by rw [hg]; exact Nat.ne_of_gt (blk_lt (g := b1) (o := .cells #[.int .i64 a1_0] 3 (0, 0)) (bkU BK1)) : gb101 ≠ b1)); have n8_ := A_ ((by rw [hg]; exact Nat.ne_of_lt (blk_lt (g := b2) (o := .cells #[.slice A2_0 l2_0.length c2_0] 30 (0, 0)) (bkU BK2)) : b2 ≠ gb101)); have n9_ := A_ ((by rw [hg]; exact Nat.ne_of_gt (blk_lt (g := b2) (o := .cells #[.slice A2_0 l2_0.length c2_0] 30 (0, 0)) (bkU BK2)) : gb101 ≠ b2)); clear BK1; clear BK2; clear HB; have BK1 := n0_; have BK2 := n1_; have HB := n2_; have BK101 := n3_; have GW101 := n4_; have GE101 := n5_; have NB1_101 := n6_; have NB101_1 := n7_; have NB2_101 := n8_; have NB101_2 := n9_; clear n0_ n1_ n2_ n3_ n4_ n5_ n6_ n7_ n8_ n9_; clear hb hbox hg; have hnb29 := NB101_1.out; have hnc29 := NB1_101.out; have hnb30 := NB101_2.out; have hnc30 := NB2_101.out; have hcz31_0 : w28.cell? ⟨gb101, 0, none⟩ = some (.int .i64 a0_0) := (blk_cell BK101.out 0).trans rfl; have hcz31_1 : w28.cell? ⟨gb101, 1, none⟩ = some (.int .i64 a0_1) := (blk_cell BK101.out 1).trans rfl; have hfz31_0 := blk_frozen BK101.out 0; have hfz31_1 := blk_frozen BK101.out 1; have hcz32_0 : w28.cell? ⟨b1, 0, none⟩ = some (.int .i64 a1_0) := (blk_cell BK1.out 0).trans rfl; have hfz32_0 := blk_frozen BK1.out 0; have hcz33_0 : w28.cell? ⟨b2, 0, none⟩ = some (.slice A2_0 l2_0.length c2_0) := (blk_cell BK2.out 0).trans rfl; have hfz33_0 := blk_frozen BK2.out 0; have q34 : ((wrap64 (a0_1 + 1)) : Int) ≤ ((l2_0.length : Int) : Int) := oD; obtain ⟨i034, hi034, _, hsz34, _⟩ := info_parts info73; have hroom34 : l2_0.length ≤ c2_0 := HC2_0.out; have hC34 : Kd.C k73 _ A2_0 l2_0.length l2_0 := HR2_0.out; have ql34 : (a0_0 : Int) ≤ ((wrap64 (a0_1 + 1)) : Int) := oD; have q034 : (0 : Int) ≤ (a0_0 : Int) := oD; have hcut34 := cut_mid (P := Try.prog) 30 73 .i64 .i64 Try.underlying30 hi034 3 hsz34 A2_0 l2_0.length c2_0 a0_0 (wrap64 (a0_1 + 1)) q034 ql34 q34 hroom34; have hr34 := Kd.C_mid (lo := (a0_0 : Int).toNat) (hi := ((wrap64 (a0_1 + 1)) : Int).toNat) (c := c2_0) hC34 (by omega) (by omega) hroom34; obtain ⟨A34, hA34⟩ : ∃ A1, A1 = (if c2_0 = (a0_0 : Int).toNat then A2_0 else (A2_0 : Option Addr).map (·.add ((a0_0 : Int).toNat * 3))) := ⟨_, rfl⟩; obtain ⟨c34, hc34⟩ : ∃ c1, c1 = c2_0 - (a0_0 : Int).toNat := ⟨_, rfl⟩; have hy34 : y102.length = ((wrap64 (a0_1 + 1)) : Int).toNat - (a0_0 : Int).toNat := (by rw [Ny102.out, List.length_drop, List.length_take] <;> omega); rw [show ((l2_0).take ((wrap64 (a0_1 + 1)) : Int).toNat).drop (a0_0 : Int).toNat = y102 from Ny102.out.symm] at hr34; replace hr34 : Kd.C k73 _ A34 y102.length y102 := (by rw [hA34]; exact hr34); rw [← hy34, ← hA34, ← hc34] at hcut34; have HR105 := A_ hr34; have HC105 := A_ (show y102.length ≤ c34 from by rw [hy34, hc34]; exact Nat.sub_le_sub_right (Nat.le_trans (by omega) hroom34) _); clear hr34 hC34 hroom34 hi034 hsz34 hc34; have KY34 := A_ hy34; have KA34 := A_ hA34; clear hy34 hA34; replace q34 := eq_true q34) | (go_at_call 58; (with_reducible refine (arm_can.calls k _ _ y102 true _ ?side1 ?side2 A26.out).mono ?_); (case side1 => exact cU (Kd.C_below HR105.out HB.out)); (case side2 => exact HC105.out); rintro e w35 ⟨rfl, hb⟩; have n0_ := A_ (blk_below (g := b1) (o := .cells #[.int .i64 a1_0] 3 (0, 0)) (bkU BK1) hb); have n1_ := A_ (blk_below (g := b2) (o := .cells #[.slice A2_0 l2_0.length c2_0] 30 (0, 0)) (bkU BK2) hb); have n2_ := A_ (bkB BK101 hb); have n3_ := A_ (below_step (bW1 HB.out GE101.out) hb); clear BK1; clear BK2; clear BK101; clear HB; have BK1 := n0_; have BK2 := n1_; have BK101 := n2_; have HB := n3_; clear n0_ n1_ n2_ n3_; (try clear hb)))
  go_ret
  exact ⟨(by first | rfl | (simp [errW_none, errW_some] <;> rfl) | (simp [*, errW_none, errW_some] <;> rfl)), Below.mono (bW0 HB.out) HN0.out, BK1.out, BK2.out⟩
 replace c27 := Bool.eq_false_iff.mpr c27
 subst c27
 have H1 : (some (false, a0_1)) = some (r, en') := by rw [if_neg (show ¬ (false = true) by decide)] at H; exact H
 clear H
 have H := H1
 clear H1
 simp only [Option.some.injEq, Prod.mk.injEq] at H; obtain ⟨rfl, rfl⟩ := H
 go_enter Try.func71, Try.ntmps71
 go_wp2_with (first | ((with_reducible refine gate_dst (N := 3) rfl ?_); (try (refine gate_guard (by rfl) ?_; dsimp only)); refine bxW 3 (cs := #[.int .i64 a0_0, .int .i64 a0_1]) (t := 84) ?_; intro gb101 hg w36 hbox hb; have n0_ := A_ (blk_below (g := b1) (o := .cells #[.int .i64 a1_0] 3 (0, 0)) (bkU BK1) hb); have n1_ := A_ (blk_below (g := b2) (o := .cells #[.slice A2_0 l2_0.length c2_0] 30 (0, 0)) (bkU BK2) hb); have n2_ := A_ (below_step (bW0 HB.out) hb); have n3_ := A_ (hbox); have n4_ := A_ ((szG hg (bW0 HB.out))); have n5_ := A_ ((szG hg (bW0 HB.out))); have n6_ := A_ ((by rw [hg]; exact Nat.ne_of_lt (blk_lt (g := b1) (o := .cells #[.int .i64 a1_0] 3 (0, 0)) (bkU BK1)) : b1 ≠ gb101)); have n7_ := A_ ((by rw [hg]; exact Nat.ne_of_gt (blk_lt (g := b1) (o := .cells #[.int .i64 a1_0] 3 (0, 0)) (bkU BK1)) : gb101 ≠ b1)); have n8_ := A_ ((by rw [hg]; exact Nat.ne_of_lt (blk_lt (g := b2) (o := .cells #[.slice A2_0 l2_0.length c2_0] 30 (0, 0)) (bkU BK2)) : b2 ≠ gb101)); have n9_ := A_ ((by rw [hg]; exact Nat.ne_of_gt (blk_lt (g := b2) (o := .cells #[.slice A2_0 l2_0.length c2_0] 30 (0, 0)) (bkU BK2)) : gb101 ≠ b2)); clear BK1; clear BK2; clear HB; have BK1 := n0_; have BK2 := n1_; have HB := n2_; have BK101 := n3_; have GW101 := n4_; have GE101 := n5_; have NB1_101 := n6_; have NB101_1 := n7_; have NB2_101 := n8_; have NB101_2 := n9_; clear n0_ n1_ n2_ n3_ n4_ n5_ n6_ n7_ n8_ n9_; clear hb hbox hg; have hnb37 := NB101_1.out; have hnc37 := NB1_101.out; have hnb38 := NB101_2.out; have hnc38 := NB2_101.out; have hcz39_0 : w36.cell? ⟨gb101, 0, none⟩ = some (.int .i64 a0_0) := (blk_cell BK101.out 0).trans rfl; have hcz39_1 : w36.cell? ⟨gb101, 1, none⟩ = some (.int .i64 a0_1) := (blk_cell BK101.out 1).trans rfl; have hfz39_0 := blk_frozen BK101.out 0; have hfz39_1 := blk_frozen BK101.out 1; have hcz40_0 : w36.cell? ⟨b1, 0, none⟩ = some (.int .i64 a1_0) := (blk_cell BK1.out 0).trans rfl; have hfz40_0 := blk_frozen BK1.out 0; have hcz41_0 : w36.cell? ⟨b2, 0, none⟩ = some (.slice A2_0 l2_0.length c2_0) := (blk_cell BK2.out 0).trans rfl; have hfz41_0 := blk_frozen BK2.out 0; have q42 : ((wrap64 (a0_1 + 1)) : Int) ≤ ((l2_0.length : Int) : Int) := oD; obtain ⟨i042, hi042, _, hsz42, _⟩ := info_parts info73; have hroom42 : l2_0.length ≤ c2_0 := HC2_0.out; have hC42 : Kd.C k73 _ A2_0 l2_0.length l2_0 := HR2_0.out; have ql42 : (a0_0 : Int) ≤ ((wrap64 (a0_1 + 1)) : Int) := oD; have q042 : (0 : Int) ≤ (a0_0 : Int) := oD; have hcut42 := cut_mid (P := Try.prog) 30 73 .i64 .i64 Try.underlying30 hi042 3 hsz42 A2_0 l2_0.length c2_0 a0_0 (wrap64 (a0_1 + 1)) q042 ql42 q42 hroom42; have hr42 := Kd.C_mid (lo := (a0_0 : Int).toNat) (hi := ((wrap64 (a0_1 + 1)) : Int).toNat) (c := c2_0) hC42 (by omega) (by omega) hroom42; obtain ⟨A42, hA42⟩ : ∃ A1, A1 = (if c2_0 = (a0_0 : Int).toNat then A2_0 else (A2_0 : Option Addr).map (·.add ((a0_0 : Int).toNat * 3))) := ⟨_, rfl⟩; obtain ⟨c42, hc42⟩ : ∃ c1, c1 = c2_0 - (a0_0 : Int).toNat := ⟨_, rfl⟩; have hy42 : y102.length = ((wrap64 (a0_1 + 1)) : Int).toNat - (a0_0 : Int).toNat := (by rw [Ny102.out, List.length_drop, List.length_take] <;> omega); rw [show ((l2_0).take ((wrap64 (a0_1 + 1)) : Int).toNat).drop (a0_0 : Int).toNat = y102 from Ny102.out.symm] at hr42; replace hr42 : Kd.C k73 _ A42 y102.length y102 := (by rw [hA42]; exact hr42); rw [← hy42, ← hA42, ← hc42] at hcut42; have HR105 := A_ hr42; have HC105 := A_ (show y102.length ≤ c42 from by rw [hy42, hc42]; exact Nat.sub_le_sub_right (Nat.le_trans (by omega) hroom42) _); clear hr42 hC42 hroom42 hi042 hsz42 hc42; have KY42 := A_ hy42; have KA42 := A_ hA42; clear hy42 hA42; replace q42 := eq_true q42) | (go_at_call 58; (with_reducible refine (arm_can.calls k _ _ y102 false _ ?side1 ?side2 A26.out).mono ?_); (case side1 => exact cU (Kd.C_below HR105.out HB.out)); (case side2 => exact HC105.out); rintro e w43 ⟨rfl, hb⟩; have n0_ := A_ (blk_below (g := b1) (o := .cells #[.int .i64 a1_0] 3 (0, 0)) (bkU BK1) hb); have n1_ := A_ (blk_below (g := b2) (o := .cells #[.slice A2_0 l2_0.length c2_0] 30 (0, 0)) (bkU BK2) hb); have n2_ := A_ (bkB BK101 hb); have n3_ := A_ (below_step (bW1 HB.out GE101.out) hb); clear BK1; clear BK2; clear BK101; clear HB; have BK1 := n0_; have BK2 := n1_; have BK101 := n2_; have HB := n3_; clear n0_ n1_ n2_ n3_; (try clear hb); have hcz44_0 : w43.cell? ⟨gb101, 0, none⟩ = some (.int .i64 a0_0) := (blk_cell BK101.out 0).trans rfl; have hcz44_1 : w43.cell? ⟨gb101, 1, none⟩ = some (.int .i64 a0_1) := (blk_cell BK101.out 1).trans rfl; have hfz44_0 := blk_frozen BK101.out 0; have hfz44_1 := blk_frozen BK101.out 1; have hcz45_0 : w43.cell? ⟨b1, 0, none⟩ = some (.int .i64 a1_0) := (blk_cell BK1.out 0).trans rfl; have hfz45_0 := blk_frozen BK1.out 0))
 go_ret
 exact ⟨(by first | rfl | (simp [errW_none, errW_some] <;> rfl) | (simp [*, errW_none, errW_some] <;> rfl)), Below.setCell (Below.mono HB.out HN0.out) HNB.out _, blk_put BK1.out 0 _ rfl, blk_far BK2.out HNE.out _⟩

end Go.Proofs.Ytiapmkndgalgnaa.G
