-- Written by this session's driver (wip/tools/printmore.py) over the kit's print, with hand-written parts.
import Derived.Test.YtciepmpadcpkbaaGBase
namespace Go.Proofs.Ytciepmpadcpkbaa.G
open Go.RowKit Go.Proofs.YtciepmpadcpkbaaW.PrintWords Go.Proofs.YtciepmpadcpkbaaW.PrintLast Go.Proofs.YtciepmpadcpkbaaW.PrintMore
attribute [local go_sem] max2_int min2_int max_two min_two max_three min_three max_four min_four   -- for this text's walks alone
set_option linter.unusedVariables false
set_option linter.unusedSimpArgs false

/-! ### wire_Clash_1: function 52 -/
def wire_Clash_1.f (a0_0 : Int) (a0_1 : Int) (a0_2 : Int) (a1_0 : Int) (a1_1 : Int) (a1_2 : Int) : Option (Bool) := some (decide (a1_1 > a0_2))
set_option maxHeartbeats 8000000 in
set_option maxRecDepth 100000 in
theorem wire_Clash_1.calls (a0_0 : Int) (a0_1 : Int) (a0_2 : Int) (b1 : Nat) (a1_0 : Int) (a1_1 : Int) (a1_2 : Int) (r : Bool) (w : World) (hbk1 : w.heap[b1]? = some (.cells #[.int .i64 a1_0, .int .i64 a1_1, .int .i64 a1_2] 72 (0, 0))) (h : wire_Clash_1.f a0_0 a0_1 a0_2 a1_0 a1_1 a1_2 = some r) :
  Calls Try.prog 52 #[.agg #[.int .i64 a0_0, .int .i64 a0_1, .int .i64 a0_2], .pointer (some ⟨b1, 0, none⟩)] w fun e w' => e = .returned (.bool r) ∧ Below w.heap.size w w' := by
 have hu72 := Try.underlying72
 have BK1 := A_ hbk1
 clear hbk1
 have HB := A_ (Below.refl w.heap.size w)
 have H : (some (decide (a1_1 > a0_2))) = some r := h
 clear h
 obtain rfl := Option.some.inj H
 go_enter Try.func52, Try.ntmps52
 go_wp2_with (first | ((with_reducible refine gate_dst (N := 2) rfl ?_); refine box_event ?hg (N := 2) ?hd (cs := #[.int .i64 a0_0, .int .i64 a0_1, .int .i64 a0_2]) (t := 72) ?hr ?_; (case hd => rfl); (case hg => rfl); (case hr => first | (go_simp; done) | (go_simp; rfl)); intro gb101 hg w3 hbox hb; have n0_ := A_ (blk_below (g := b1) (o := .cells #[.int .i64 a1_0, .int .i64 a1_1, .int .i64 a1_2] 72 (0, 0)) (bkU BK1) hb); have n1_ := A_ (below_step (bW0 HB.out) hb); have n2_ := A_ (hbox); have n3_ := A_ ((szG hg (bW0 HB.out))); have n4_ := A_ ((szG hg (bW0 HB.out))); have n5_ := A_ ((by rw [hg]; exact Nat.ne_of_lt (blk_lt (g := b1) (o := .cells #[.int .i64 a1_0, .int .i64 a1_1, .int .i64 a1_2] 72 (0, 0)) (bkU BK1)) : b1 ≠ gb101)); have n6_ := A_ ((by rw [hg]; exact Nat.ne_of_gt (blk_lt (g := b1) (o := .cells #[.int .i64 a1_0, .int .i64 a1_1, .int .i64 a1_2] 72 (0, 0)) (bkU BK1)) : gb101 ≠ b1)); clear BK1; clear HB; have BK1 := n0_; have HB := n1_; have BK101 := n2_; have GW101 := n3_; have GE101 := n4_; have NB1_101 := n5_; have NB101_1 := n6_; clear n0_ n1_ n2_ n3_ n4_ n5_ n6_; clear hb hbox hg; have hnb4 := NB1_101.out; have hnc4 := NB101_1.out; have hcz5_0 : w3.cell? ⟨b1, 0, none⟩ = some (.int .i64 a1_0) := (blk_cell BK1.out 0).trans rfl; have hcz5_1 : w3.cell? ⟨b1, 1, none⟩ = some (.int .i64 a1_1) := (blk_cell BK1.out 1).trans rfl; have hcz5_2 : w3.cell? ⟨b1, 2, none⟩ = some (.int .i64 a1_2) := (blk_cell BK1.out 2).trans rfl; have hfz5_0 := blk_frozen BK1.out 0; have hfz5_1 := blk_frozen BK1.out 1; have hfz5_2 := blk_frozen BK1.out 2; have hcz6_0 : w3.cell? ⟨gb101, 0, none⟩ = some (.int .i64 a0_0) := (blk_cell BK101.out 0).trans rfl; have hcz6_1 : w3.cell? ⟨gb101, 1, none⟩ = some (.int .i64 a0_1) := (blk_cell BK101.out 1).trans rfl; have hcz6_2 : w3.cell? ⟨gb101, 2, none⟩ = some (.int .i64 a0_2) := (blk_cell BK101.out 2).trans rfl; have hfz6_0 := blk_frozen BK101.out 0; have hfz6_1 := blk_frozen BK101.out 1; have hfz6_2 := blk_frozen BK101.out 2))
 go_ret
 exact ⟨by first | rfl | (simp [errW_none, errW_some] <;> rfl) | (simp [*, errW_none, errW_some] <;> rfl), by repeat (first | (with_reducible first | exact HB.out | apply below_alloc | apply pw_below_drewN | apply below_drew1 | refine below_set ?_ GE1.out | refine below_set ?_ GE101.out) | exact HB.out)⟩

end Go.Proofs.Ytciepmpadcpkbaa.G
