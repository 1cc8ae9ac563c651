-- Written by this session's driver (wip/tools/printmore.py) over the kit's print, with hand-written parts.
import Derived.Test.YtiapmkndgalgnaaGBase
import Derived.Test.YtiapmkndgalgnaaGF57
namespace Go.Proofs.Ytiapmkndgalgnaa.G
open Go.RowKit Go.Proofs.YtiapmkndgalgnaaW.PrintWords Go.Proofs.YtiapmkndgalgnaaW.PrintLast Go.Proofs.YtiapmkndgalgnaaW.PrintMore
attribute [local go_sem] max2_int min2_int max_two min_two max_three min_three max_four min_four   -- for this text's walks alone
set_option linter.unusedVariables false
set_option linter.unusedSimpArgs false

/-! ### dropperref03_Some: function 25 -/
def dropperref03_Some.f (k : Nat) (l0 : List (S73)) : Option (Bool) := if (l0.length : Int) < 2 then (some true) else ((dropperref03_slopes.f k l0).bind fun bt101 => (some bt101.2.2.2.2))
theorem dropperref03_Some.mono : ∀ a0 k, LeO (dropperref03_Some.f k a0) (dropperref03_Some.f (k + 1) a0) := by
 intro a0 k
 unfold dropperref03_Some.f
 repeat' first
   | (with_reducible exact dropperref03_slopes.mono _ _)
   | (with_reducible exact LeO.refl _)
   | (with_reducible exact LeO.none _)
   | (with_reducible refine LeO.ite ?_ ?_)
   | (with_reducible refine LeO.bind ?_ (fun _ => ?_))
   | exact dropperref03_slopes.mono _ _
   | exact LeO.none _
   | refine LeO.ite ?_ ?_
   | refine LeO.bind ?_ (fun _ => ?_)
set_option maxHeartbeats 8000000 in
set_option maxRecDepth 100000 in
theorem dropperref03_Some.calls (k : Nat) (A0 : Option Addr) (c0 : Nat) (l0 : List (S73)) (r : Bool) (w : World) (hr0 : Kd.C k73 w A0 l0.length l0) (hc0 : l0.length ≤ c0) (h : dropperref03_Some.f k l0 = some r) :
  Calls Try.prog 25 #[.slice A0 l0.length c0] w fun e w' => e = .returned (.bool r) ∧ Below w.heap.size w w' := by
 have hu24 := Try.underlying24
 have HR0 := A_ hr0
 have HC0 := A_ hc0
 clear hr0 hc0
 have HB := A_ (Below.refl w.heap.size w)
 have H : (if (l0.length : Int) < 2 then (some true) else ((dropperref03_slopes.f k l0).bind fun bt101 => (some bt101.2.2.2.2))) = some r := h
 clear h
 by_cases c2 : (l0.length : Int) < 2
 ·rw [if_pos c2] at H
  have c2b0 : decide ((l0.length : Int) < 2) = true := decide_eq_true c2
  have c2b1 : decide (l0.length < 2) = true := decide_eq_true (by omega)
  clear c2
  obtain rfl := Option.some.inj H
  go_enter Try.func25, Try.ntmps25
  go_wp2
  go_ret
  exact ⟨eQ, by repeat (first | (with_reducible first | exact HB.out | apply below_alloc | apply pw_below_drewN | apply below_drew1) | exact HB.out)⟩
 rw [if_neg c2] at H
 have c2b0 : decide ((l0.length : Int) < 2) = false := decide_eq_false c2
 have c2b1 : decide (l0.length < 2) = false := decide_eq_false (by omega)
 clear c2
 replace H := Option.bind_eq_some_iff.mp H
 obtain ⟨⟨t101, t102, t103, t104, t105⟩, A30, H⟩ := H
 replace H : (some t105) = some r := H
 have A3 := A_ A30
 clear A30
 obtain rfl := Option.some.inj H
 go_enter Try.func25, Try.ntmps25
 go_wp2_with (first | ((with_reducible refine gate_callee (f := 57) rfl ?_); refine goesW_ (some 11) Try.func57 #[.slice A0 l0.length c0] ?_; (with_reducible refine (dropperref03_slopes.calls k _ _ l0 t101 t102 t103 t104 t105 _ ?side1 ?side2 A3.out).mono ?_); (case side1 => exact cU HR0.out); (case side2 => exact HC0.out); rintro e w4 ⟨rfl, hb⟩; refine ⟨_, rfl, ?_⟩; have n0_ := A_ (below_step (bW0 HB.out) hb); clear HB; have HB := n0_; clear n0_; (try clear hb)) | ((with_reducible refine gate_dst (N := 3) rfl ?_); refine bxW 3 (cs := #[.int .i64 0, .int .i64 0]) (t := 24) ?_; intro gb106 hg w5 hbox hb; have n0_ := A_ (below_step (bW0 HB.out) hb); have n1_ := A_ (hbox); have n2_ := A_ ((szG hg (bW0 HB.out))); have n3_ := A_ ((szG hg (bW0 HB.out))); clear HB; have HB := n0_; have BK106 := n1_; have GW106 := n2_; have GE106 := n3_; clear n0_ n1_ n2_ n3_; clear hb hbox hg) | ((with_reducible refine gate_dst (N := 4) rfl ?_); refine bxW 4 (cs := #[.int .i64 0, .int .i64 0]) (t := 24) ?_; intro gb107 hg w6 hbox hb; have n0_ := A_ (bkB BK106 hb); have n1_ := A_ (below_step (bW1 HB.out GE106.out) hb); have n2_ := A_ (hbox); have n3_ := A_ ((szG hg (bW1 HB.out GE106.out))); have n4_ := A_ ((szG hg (bW1 HB.out GE106.out))); have n5_ := A_ ((bkL BK106 hg : gb106 ≠ gb107)); have n6_ := A_ ((bkG BK106 hg : gb107 ≠ gb106)); clear BK106; clear HB; have BK106 := n0_; have HB := n1_; have BK107 := n2_; have GW107 := n3_; have GE107 := n4_; have NB106_107 := n5_; have NB107_106 := n6_; clear n0_ n1_ n2_ n3_ n4_ n5_ n6_; clear hb hbox hg; have hnb7 := NB106_107.out; have hnc7 := NB107_106.out; have hcz8_0 : w6.cell? ⟨gb106, 0, none⟩ = some (.int .i64 0) := (blk_cell BK106.out 0).trans rfl; have hcz8_1 : w6.cell? ⟨gb106, 1, none⟩ = some (.int .i64 0) := (blk_cell BK106.out 1).trans rfl; have hfz8_0 := blk_frozen BK106.out 0; have hfz8_1 := blk_frozen BK106.out 1; have hcz9_0 : w6.cell? ⟨gb107, 0, none⟩ = some (.int .i64 0) := (blk_cell BK107.out 0).trans rfl; have hcz9_1 : w6.cell? ⟨gb107, 1, none⟩ = some (.int .i64 0) := (blk_cell BK107.out 1).trans rfl; have hfz9_0 := blk_frozen BK107.out 0; have hfz9_1 := blk_frozen BK107.out 1))
 go_ret
 exact ⟨eQ, by repeat (first | (with_reducible first | exact HB.out | apply below_alloc | apply pw_below_drewN | apply below_drew1 | refine below_set ?_ GE106.out | refine below_set ?_ GE107.out) | exact HB.out)⟩

end Go.Proofs.Ytiapmkndgalgnaa.G
