-- Written by this session's driver (wip/tools/printmore.py) over the kit's print, with hand-written parts.
import Derived.Test.YtiapmkndgalgnaaGBase
import Derived.Test.YtiapmkndgalgnaaGF13
import Derived.Test.YtiapmkndgalgnaaGF14
namespace Go.Proofs.Ytiapmkndgalgnaa.G
open Go.RowKit Go.Proofs.YtiapmkndgalgnaaW.PrintWords Go.Proofs.YtiapmkndgalgnaaW.PrintLast Go.Proofs.YtiapmkndgalgnaaW.PrintMore
attribute [local go_sem] max2_int min2_int max_two min_two max_three min_three max_four min_four   -- for this text's walks alone
set_option linter.unusedVariables false
set_option linter.unusedSimpArgs false

/-! ### dropperlaw03_ArmVersines: function 3 -/
def dropperlaw03_ArmVersines.f (k : Nat) (a0 : Int) (a1 : Int) : Option (Bool) := (arm_Versine.f k (Int.tmod (wrap64 (a0)) 5001) (wrap64 (1 + (wrap64 (a1))))).bind fun bt101 => ((arm_Versine.f k (wrap64 (2 * (Int.tmod (wrap64 (a0)) 5001))) (wrap64 (1 + (wrap64 (a1))))).bind fun bt105 => (if bt101.2.2 = 0 then (if bt105.2.2 = 0 then (if bt101.2.1 ≥ 1 then (if bt105.2.1 ≥ 1 then (if (wrap64 ((wrap64 (4 * bt101.1)) * bt105.2.1)) = (wrap64 (bt105.1 * bt101.2.1)) then ((dropperlaw03_First.f k).bind fun t109 => (some t109)) else (some false)) else (some false)) else (some false)) else (some false)) else (some false)))
theorem dropperlaw03_ArmVersines.mono : ∀ a0 a1 k, LeO (dropperlaw03_ArmVersines.f k a0 a1) (dropperlaw03_ArmVersines.f (k + 1) a0 a1) := by
  intro a0 a1 k
  unfold dropperlaw03_ArmVersines.f
  repeat' first
      | (with_reducible exact arm_Versine.mono _ _ _)
      | (with_reducible exact dropperlaw03_First.mono _)
      | (with_reducible exact LeO.refl _)
      | (with_reducible exact LeO.none _)
      | (with_reducible refine LeO.ite ?_ ?_)
      | (with_reducible refine LeO.bind ?_ (fun _ => ?_))
      | exact arm_Versine.mono _ _ _
      | exact dropperlaw03_First.mono _
      | exact LeO.none _
      | refine LeO.ite ?_ ?_
      | refine LeO.bind ?_ (fun _ => ?_)
set_option maxHeartbeats 8000000 in
set_option maxRecDepth 100000 in
theorem dropperlaw03_ArmVersines.calls (k : Nat) (a0 : Int) (a1 : Int) (r : Bool) (w : World) (h : dropperlaw03_ArmVersines.f k a0 a1 = some r) (hT : r = true) :
    Calls Try.prog 3 #[.int .u16 a0, .int .u16 a1] w fun e w' => e = .returned (.bool r) ∧ Below w.heap.size w w' := by
  have hu24 := Try.underlying24
  have HB := Aside0.mk (Below.refl w.heap.size w)
  have H : ((arm_Versine.f k (Int.tmod (wrap64 (a0)) 5001) (wrap64 (1 + (wrap64 (a1))))).bind fun bt101 => ((arm_Versine.f k (wrap64 (2 * (Int.tmod (wrap64 (a0)) 5001))) (wrap64 (1 + (wrap64 (a1))))).bind fun bt105 => (if bt101.2.2 = 0 then (if bt105.2.2 = 0 then (if bt101.2.1 ≥ 1 then (if bt105.2.1 ≥ 1 then (if (wrap64 ((wrap64 (4 * bt101.1)) * bt105.2.1)) = (wrap64 (bt105.1 * bt101.2.1)) then ((dropperlaw03_First.f k).bind fun t109 => (some t109)) else (some false)) else (some false)) else (some false)) else (some false)) else (some false)))) = some r := h
  clear h
  replace H := Option.bind_eq_some_iff.mp H
  obtain ⟨⟨t101, t102, t103⟩, A30, H⟩ := H
  replace H : ((arm_Versine.f k (wrap64 (2 * (Int.tmod (wrap64 (a0)) 5001))) (wrap64 (1 + (wrap64 (a1))))).bind fun bt105 => (if t103 = 0 then (if bt105.2.2 = 0 then (if t102 ≥ 1 then (if bt105.2.1 ≥ 1 then (if (wrap64 ((wrap64 (4 * t101)) * bt105.2.1)) = (wrap64 (bt105.1 * t102)) then ((dropperlaw03_First.f k).bind fun t109 => (some t109)) else (some false)) else (some false)) else (some false)) else (some false)) else (some false))) = some r := H
  have A3 := Aside0.mk A30
  clear A30
  replace H := Option.bind_eq_some_iff.mp H
  obtain ⟨⟨t105, t106, t107⟩, A40, H⟩ := H
  replace H : (if t103 = 0 then (if t107 = 0 then (if t102 ≥ 1 then (if t106 ≥ 1 then (if (wrap64 ((wrap64 (4 * t101)) * t106)) = (wrap64 (t105 * t102)) then ((dropperlaw03_First.f k).bind fun t109 => (some t109)) else (some false)) else (some false)) else (some false)) else (some false)) else (some false)) = some r := H
  have A4 := Aside0.mk A40
  clear A40
  by_cases c5 : t103 = 0
  rotate_left
  · rw [if_neg c5] at H
    have c5b0 : (t103 == 0) = false := beq_eq_false_iff_ne.mpr c5
    have c5b1 : (t103 != 0) = true := bne_iff_ne.mpr c5
    exact absurd (hT.symm.trans (Option.some.inj H).symm) (by decide)

  rw [if_pos c5] at H
  have c5b0 : (t103 == 0) = true := beq_iff_eq.mpr c5
  have c5b1 : (t103 != 0) = false := bne_eq_false_iff_eq.mpr c5
  clear c5
  by_cases c6 : t107 = 0
  rotate_left
  · rw [if_neg c6] at H
    have c6b0 : (t107 == 0) = false := beq_eq_false_iff_ne.mpr c6
    have c6b1 : (t107 != 0) = true := bne_iff_ne.mpr c6
    exact absurd (hT.symm.trans (Option.some.inj H).symm) (by decide)
  rw [if_pos c6] at H
  have c6b0 : (t107 == 0) = true := beq_iff_eq.mpr c6
  have c6b1 : (t107 != 0) = false := bne_eq_false_iff_eq.mpr c6
  clear c6
  by_cases c7 : t102 ≥ 1
  rotate_left
  · rw [if_neg c7] at H
    have c7b0 : decide (1 ≤ t102) = false := decide_eq_false c7
    clear c7
    exact absurd (hT.symm.trans (Option.some.inj H).symm) (by decide)
  rw [if_pos c7] at H
  have c7b0 : decide (1 ≤ t102) = true := decide_eq_true c7
  clear c7
  by_cases c8 : t106 ≥ 1
  rotate_left
  · rw [if_neg c8] at H
    have c8b0 : decide (1 ≤ t106) = false := decide_eq_false c8
    clear c8
    exact absurd (hT.symm.trans (Option.some.inj H).symm) (by decide)
  rw [if_pos c8] at H
  have c8b0 : decide (1 ≤ t106) = true := decide_eq_true c8
  clear c8
  by_cases c9 : (wrap64 ((wrap64 (4 * t101)) * t106)) = (wrap64 (t105 * t102))
  rotate_left
  · rw [if_neg c9] at H
    have c9b0 : ((wrap64 ((wrap64 (4 * t101)) * t106)) == (wrap64 (t105 * t102))) = false := beq_eq_false_iff_ne.mpr c9
    have c9b1 : ((wrap64 ((wrap64 (4 * t101)) * t106)) != (wrap64 (t105 * t102))) = true := bne_iff_ne.mpr c9
    exact absurd (hT.symm.trans (Option.some.inj H).symm) (by decide)
  rw [if_pos c9] at H
  have c9b0 : ((wrap64 ((wrap64 (4 * t101)) * t106)) == (wrap64 (t105 * t102))) = true := beq_iff_eq.mpr c9
  have c9b1 : ((wrap64 ((wrap64 (4 * t101)) * t106)) != (wrap64 (t105 * t102))) = false := bne_eq_false_iff_eq.mpr c9
  clear c9
  replace H := Option.bind_eq_some_iff.mp H
  obtain ⟨t109, A100, H⟩ := H
  replace H : (some t109) = some r := H
  have A10 := Aside0.mk A100
  clear A100
  clear hT
  obtain rfl := Option.some.inj H
  go_enter Try.func3, Try.ntmps3
  go_wp2_with (first | ((with_reducible refine gate_callee (f := 13) rfl ?_); refine goesL_ (some 20) rfl rfl Try.func13 (by kernel_rfl) rfl #[.int .i64 (Int.tmod (wrap64 (a0)) 5001), .int .i64 (wrap64 (1 + (wrap64 (a1))))] rfl (by (try simp only [List.map_toArray, List.map_cons, List.map_nil]); first | done | rfl | (simp only [List.length_drop, List.length_take]; rfl)) ?_; (with_reducible refine (arm_Versine.calls k (Int.tmod (wrap64 (a0)) 5001) (wrap64 (1 + (wrap64 (a1)))) t101 t102 t103 _ A3.out).mono ?_); rintro e w11 ⟨rfl, hb⟩; refine ⟨_, rfl, ?_⟩; have n0_ := Aside0.mk (below_step (by repeat (first | (with_reducible first | exact HB.out | apply below_alloc | apply pw_below_drewN | apply below_drew1) | exact HB.out)) hb); clear HB; have HB := n0_; clear n0_; (try clear hb); (try clear hb2); (try clear hk); (try clear hi)) | ((with_reducible refine gate_dst (N := 7) rfl ?_); refine box_event ?hg (N := 7) ?hd (cs := #[.int .i64 0, .int .i64 0]) (t := 24) ?hr ?_; (case hd => rfl); (case hg => rfl); (case hr => first | (go_simp; done) | (go_simp; rfl)); intro gb104 hg w12 hbox hb; have n0_ := Aside0.mk (below_step (by repeat (first | (with_reducible first | exact HB.out | apply below_alloc | apply pw_below_drewN | apply below_drew1) | exact HB.out)) hb); have n1_ := Aside0.mk (hbox); have n2_ := Aside0.mk ((by rw [hg]; exact (below_size (by repeat (first | (with_reducible first | exact HB.out | apply below_alloc | apply pw_below_drewN | apply below_drew1) | exact HB.out))) : w.heap.size ≤ gb104)); have n3_ := Aside0.mk ((by rw [hg]; exact (below_size (by repeat (first | (with_reducible first | exact HB.out | apply below_alloc | apply pw_below_drewN | apply below_drew1) | exact HB.out))) : w.heap.size ≤ gb104)); clear HB; have HB := n0_; have BK104 := n1_; have GW104 := n2_; have GE104 := n3_; clear n0_ n1_ n2_ n3_; clear hb hbox hg; have hcz13_0 : w12.cell? ⟨gb104, 0, none⟩ = some (.int .i64 0) := (blk_cell BK104.out 0).trans rfl; have hcz13_1 : w12.cell? ⟨gb104, 1, none⟩ = some (.int .i64 0) := (blk_cell BK104.out 1).trans rfl; have hfz13_0 := blk_frozen BK104.out 0; have hfz13_1 := blk_frozen BK104.out 1) | ((with_reducible refine gate_callee (f := 13) rfl ?_); refine goesL_ (some 27) rfl rfl Try.func13 (by kernel_rfl) rfl #[.int .i64 (wrap64 (2 * (Int.tmod (wrap64 (a0)) 5001))), .int .i64 (wrap64 (1 + (wrap64 (a1))))] rfl (by (try simp only [List.map_toArray, List.map_cons, List.map_nil]); first | done | rfl | (simp only [List.length_drop, List.length_take]; rfl)) ?_; (with_reducible refine (arm_Versine.calls k (wrap64 (2 * (Int.tmod (wrap64 (a0)) 5001))) (wrap64 (1 + (wrap64 (a1)))) t105 t106 t107 _ A4.out).mono ?_); rintro e w14 ⟨rfl, hb⟩; refine ⟨_, rfl, ?_⟩; have n0_ := Aside0.mk (blk_below (g := gb104) (o := .cells #[.int .i64 t101, .int .i64 t102] 24 (0, 0)) (by (with_reducible repeat (first | refine blk_drewN ?_ _ | refine blk_drew ?_ | refine blk_alloc ?_ _)); refine blk_put (cs := #[.int .i64 t101, .int .i64 0]) ?_ 1 _ rfl; (with_reducible repeat (first | refine blk_drewN ?_ _ | refine blk_drew ?_ | refine blk_alloc ?_ _)); refine blk_put (cs := #[.int .i64 0, .int .i64 0]) ?_ 0 _ rfl; (with_reducible repeat (first | refine blk_drewN ?_ _ | refine blk_drew ?_ | refine blk_alloc ?_ _)); exact BK104.out) hb); have n1_ := Aside0.mk (below_step (by repeat (first | (with_reducible first | exact HB.out | apply below_alloc | apply pw_below_drewN | apply below_drew1 | refine below_set ?_ GE104.out) | exact HB.out)) hb); clear BK104; clear HB; have BK104 := n0_; have HB := n1_; clear n0_ n1_; (try clear hb); (try clear hb2); (try clear hk); (try clear hi)) | ((with_reducible refine gate_dst (N := 9) rfl ?_); refine box_event ?hg (N := 9) ?hd (cs := #[.int .i64 0, .int .i64 0]) (t := 24) ?hr ?_; (case hd => rfl); (case hg => rfl); (case hr => first | (go_simp; done) | (go_simp; rfl)); intro gb108 hg w15 hbox hb; have n0_ := Aside0.mk (bkB BK104 hb); have n1_ := Aside0.mk (below_step (by repeat (first | (with_reducible first | exact HB.out | apply below_alloc | apply pw_below_drewN | apply below_drew1 | refine below_set ?_ GE104.out) | exact HB.out)) hb); have n2_ := Aside0.mk (hbox); have n3_ := Aside0.mk ((by rw [hg]; exact (below_size (by repeat (first | (with_reducible first | exact HB.out | apply below_alloc | apply pw_below_drewN | apply below_drew1 | refine below_set ?_ GE104.out) | exact HB.out))) : w.heap.size ≤ gb108)); have n4_ := Aside0.mk ((by rw [hg]; exact (below_size (by repeat (first | (with_reducible first | exact HB.out | apply below_alloc | apply pw_below_drewN | apply below_drew1 | refine below_set ?_ GE104.out) | exact HB.out))) : w.heap.size ≤ gb108)); have n5_ := Aside0.mk ((bkL BK104 hg : gb104 ≠ gb108)); have n6_ := Aside0.mk ((bkG BK104 hg : gb108 ≠ gb104)); clear BK104; clear HB; have BK104 := n0_; have HB := n1_; have BK108 := n2_; have GW108 := n3_; have GE108 := n4_; have NB104_108 := n5_; have NB108_104 := n6_; clear n0_ n1_ n2_ n3_ n4_ n5_ n6_; clear hb hbox hg; have hnb16 := NB108_104.out; have hnc16 := NB104_108.out; have hcz17_0 : w15.cell? ⟨gb108, 0, none⟩ = some (.int .i64 0) := (blk_cell BK108.out 0).trans rfl; have hcz17_1 : w15.cell? ⟨gb108, 1, none⟩ = some (.int .i64 0) := (blk_cell BK108.out 1).trans rfl; have hfz17_0 := blk_frozen BK108.out 0; have hfz17_1 := blk_frozen BK108.out 1; have hcz18_0 : w15.cell? ⟨gb104, 0, none⟩ = some (.int .i64 t101) := (blk_cell BK104.out 0).trans rfl; have hcz18_1 : w15.cell? ⟨gb104, 1, none⟩ = some (.int .i64 t102) := (blk_cell BK104.out 1).trans rfl; have hfz18_0 := blk_frozen BK104.out 0; have hfz18_1 := blk_frozen BK104.out 1) | (go_at_call 14; (with_reducible refine (dropperlaw03_First.calls k  t109 _ A10.out).mono ?_); rintro e w19 ⟨rfl, hb⟩; have n0_ := Aside0.mk (blk_below (g := gb104) (o := .cells #[.int .i64 t101, .int .i64 t102] 24 (0, 0)) (bkF2 BK104 NB104_108) hb); have n1_ := Aside0.mk (blk_below (g := gb108) (o := .cells #[.int .i64 t105, .int .i64 t106] 24 (0, 0)) (by (with_reducible repeat (first | refine blk_drewN ?_ _ | refine blk_drew ?_ | refine blk_alloc ?_ _)); refine blk_put (cs := #[.int .i64 t105, .int .i64 0]) ?_ 1 _ rfl; (with_reducible repeat (first | refine blk_drewN ?_ _ | refine blk_drew ?_ | refine blk_alloc ?_ _)); refine blk_put (cs := #[.int .i64 0, .int .i64 0]) ?_ 0 _ rfl; (with_reducible repeat (first | refine blk_drewN ?_ _ | refine blk_drew ?_ | refine blk_alloc ?_ _)); exact BK108.out) hb); have n2_ := Aside0.mk (below_step (by repeat (first | (with_reducible first | exact HB.out | apply below_alloc | apply pw_below_drewN | apply below_drew1 | refine below_set ?_ GE104.out | refine below_set ?_ GE108.out) | exact HB.out)) hb); clear BK104; clear BK108; clear HB; have BK104 := n0_; have BK108 := n1_; have HB := n2_; clear n0_ n1_ n2_; (try clear hb); (try clear hb2); (try clear hk); (try clear hi)))
  go_ret
  exact ⟨by first | rfl | (simp [errW_none, errW_some] <;> rfl) | (simp [*, errW_none, errW_some] <;> rfl), by repeat (first | (with_reducible first | exact HB.out | apply below_alloc | apply pw_below_drewN | apply below_drew1 | refine below_set ?_ GE104.out | refine below_set ?_ GE108.out) | exact HB.out)⟩
end Go.Proofs.Ytiapmkndgalgnaa.G
