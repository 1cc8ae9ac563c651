-- Written by this session's driver (wip/tools/printmore.py) over the kit's print, with hand-written parts.
import Derived.Test.YtiapmkndgalgnaaGBase
import Derived.Test.YtiapmkndgalgnaaGQ24
import Derived.Test.YtiapmkndgalgnaaGF13
import Derived.Test.YtiapmkndgalgnaaGF14
import Derived.Test.YtiapmkndgalgnaaGF15
import Derived.Test.YtiapmkndgalgnaaGF35
import Derived.Test.YtiapmkndgalgnaaGF36
import Derived.Test.YtiapmkndgalgnaaGF37
import Derived.Test.YtiapmkndgalgnaaGF38
namespace Go.Proofs.Ytiapmkndgalgnaa.G
open Go.RowKit Go.Proofs.YtiapmkndgalgnaaW.PrintWords Go.Proofs.YtiapmkndgalgnaaW.PrintLast Go.Proofs.YtiapmkndgalgnaaW.PrintMore
attribute [local go_sem] max2_int min2_int max_two min_two max_three min_three max_four min_four   -- for this text's walks alone
set_option linter.unusedVariables false
set_option linter.unusedSimpArgs false

attribute [local go_sem high] eqA24
/-! ### dropperlaw03_ArmCurves: function 8 -/
def dropperlaw03_ArmCurves.f (k : Nat) (l0 : List (S73)) (a1 : Int) (a2 : Int) : Option (Bool) := (dropperlaw03_Long.f l0).bind fun t101 => (if t101 = true then ((dropperlaw03_First.f k).bind fun t102 => (some t102)) else ((arm_Versine.f k a1 a2).bind fun bt103 => ((dropperref03_Versine.f k a1 a2).bind fun bt107 => ((arm_Curved.f k l0 a2).bind fun bt111 => ((dropperref03_Curved.f k l0 a2).bind fun bt115 => (if (bt103.1 == bt107.1 && (bt103.2.1 == bt107.2.1)) = true then (if bt103.2.2 = bt107.2.2 then ((dropperlaw03_same.f k bt111.1 bt115.1).bind fun t119 => (if t119 = true then (if bt111.2 = bt115.2 then ((dropperlaw03_First.f k).bind fun t120 => (some t120)) else (some false)) else (some false))) else (some false)) else (some false)))))))
theorem dropperlaw03_ArmCurves.mono : ∀ a0 a1 a2 k, LeO (dropperlaw03_ArmCurves.f k a0 a1 a2) (dropperlaw03_ArmCurves.f (k + 1) a0 a1 a2) := by
  intro a0 a1 a2 k
  unfold dropperlaw03_ArmCurves.f
  repeat' first
      | (with_reducible exact arm_Curved.mono _ _ _)
      | (with_reducible exact arm_Versine.mono _ _ _)
      | (with_reducible exact dropperlaw03_First.mono _)
      | (with_reducible exact dropperlaw03_same.mono _ _ _)
      | (with_reducible exact dropperref03_Curved.mono _ _ _)
      | (with_reducible exact dropperref03_Versine.mono _ _ _)
      | (with_reducible exact LeO.refl _)
      | (with_reducible exact LeO.none _)
      | (with_reducible refine LeO.ite ?_ ?_)
      | (with_reducible refine LeO.bind ?_ (fun _ => ?_))
      | exact arm_Curved.mono _ _ _
      | exact arm_Versine.mono _ _ _
      | exact dropperlaw03_First.mono _
      | exact dropperlaw03_same.mono _ _ _
      | exact dropperref03_Curved.mono _ _ _
      | exact dropperref03_Versine.mono _ _ _
      | exact LeO.none _
      | refine LeO.ite ?_ ?_
      | refine LeO.bind ?_ (fun _ => ?_)
set_option maxHeartbeats 8000000 in
set_option maxRecDepth 100000 in
theorem dropperlaw03_ArmCurves.calls (k : Nat) (A0 : Option Addr) (c0 : Nat) (l0 : List (S73)) (a1 : Int) (a2 : Int) (r : Bool) (w : World) (hr0 : Kd.C k73 w A0 l0.length l0) (hc0 : l0.length ≤ c0) (h : dropperlaw03_ArmCurves.f k l0 a1 a2 = some r) (hT : r = true) :
    Calls Try.prog 8 #[.slice A0 l0.length c0, .int .i64 a1, .int .i64 a2] w fun e w' => e = .returned (.bool r) ∧ Below w.heap.size w w' := by
  have hu24 := Try.underlying24
  have HR0 := Aside0.mk hr0
  have HC0 := Aside0.mk hc0
  clear hr0 hc0
  have HB := Aside0.mk (Below.refl w.heap.size w)
  have H : ((dropperlaw03_Long.f l0).bind fun t101 => (if t101 = true then ((dropperlaw03_First.f k).bind fun t102 => (some t102)) else ((arm_Versine.f k a1 a2).bind fun bt103 => ((dropperref03_Versine.f k a1 a2).bind fun bt107 => ((arm_Curved.f k l0 a2).bind fun bt111 => ((dropperref03_Curved.f k l0 a2).bind fun bt115 => (if (bt103.1 == bt107.1 && (bt103.2.1 == bt107.2.1)) = true then (if bt103.2.2 = bt107.2.2 then ((dropperlaw03_same.f k bt111.1 bt115.1).bind fun t119 => (if t119 = true then (if bt111.2 = bt115.2 then ((dropperlaw03_First.f k).bind fun t120 => (some t120)) else (some false)) else (some false))) else (some false)) else (some false)))))))) = some r := h
  clear h
  replace H := Option.bind_eq_some_iff.mp H
  obtain ⟨t101, A40, H⟩ := H
  replace H : (if t101 = true then ((dropperlaw03_First.f k).bind fun t102 => (some t102)) else ((arm_Versine.f k a1 a2).bind fun bt103 => ((dropperref03_Versine.f k a1 a2).bind fun bt107 => ((arm_Curved.f k l0 a2).bind fun bt111 => ((dropperref03_Curved.f k l0 a2).bind fun bt115 => (if (bt103.1 == bt107.1 && (bt103.2.1 == bt107.2.1)) = true then (if bt103.2.2 = bt107.2.2 then ((dropperlaw03_same.f k bt111.1 bt115.1).bind fun t119 => (if t119 = true then (if bt111.2 = bt115.2 then ((dropperlaw03_First.f k).bind fun t120 => (some t120)) else (some false)) else (some false))) else (some false)) else (some false))))))) = some r := H
  have A4 := Aside0.mk A40
  clear A40
  by_cases c5 : t101 = true
  · subst c5
    have H1 : ((dropperlaw03_First.f k).bind fun t102 => (some t102)) = some r := by rw [if_pos rfl] at H; exact H
    clear H
    have H := H1
    clear H1
    replace H := Option.bind_eq_some_iff.mp H
    obtain ⟨t102, A60, H⟩ := H
    replace H : (some t102) = some r := H
    have A6 := Aside0.mk A60
    clear A60
    clear hT
    obtain rfl := Option.some.inj H
    go_enter Try.func8, Try.ntmps8
    go_wp2_with (first | ((with_reducible refine gate_callee (f := 15) rfl ?_); refine goesL_ (some 16) rfl rfl Try.func15 (by kernel_rfl) rfl #[.slice A0 l0.length c0] rfl (by (try simp only [List.map_toArray, List.map_cons, List.map_nil]); first | done | rfl | (simp only [List.length_drop, List.length_take]; rfl)) ?_; (with_reducible refine (dropperlaw03_Long.calls _ _ l0 true _ ?side1 ?side2 A4.out).mono ?_); (case side1 => repeat (first | exact HR0.out | (with_reducible refine Kd.C_alloc ?_ _) | (with_reducible refine Kd.C_drewN ?_ _) | (with_reducible refine Kd.C_drew ?_))); (case side2 => exact HC0.out); rintro e w' ⟨rfl, ⟨nd, rfl⟩⟩; refine ⟨_, rfl, ?_⟩) | ((with_reducible refine gate_callee (f := 14) rfl ?_); refine goesL_ (some 17) rfl rfl Try.func14 (by kernel_rfl) rfl #[] rfl (by (try simp only [List.map_toArray, List.map_cons, List.map_nil]); first | done | rfl | (simp only [List.length_drop, List.length_take]; rfl)) ?_; (with_reducible refine (dropperlaw03_First.calls k  t102 _ A6.out).mono ?_); rintro e w7 ⟨rfl, hb⟩; refine ⟨_, rfl, ?_⟩; have n0_ := Aside0.mk (below_step (by repeat (first | (with_reducible first | exact HB.out | apply below_alloc | apply pw_below_drewN | apply below_drew1) | exact HB.out)) hb); clear HB; have HB := n0_; clear n0_; (try clear hb); (try clear hb2); (try clear hk); (try clear hi)))
    go_ret
    exact ⟨by first | rfl | (simp [errW_none, errW_some] <;> rfl) | (simp [*, errW_none, errW_some] <;> rfl), by repeat (first | (with_reducible first | exact HB.out | apply below_alloc | apply pw_below_drewN | apply below_drew1) | exact HB.out)⟩
  replace c5 := Bool.eq_false_iff.mpr c5
  subst c5
  have H1 : ((arm_Versine.f k a1 a2).bind fun bt103 => ((dropperref03_Versine.f k a1 a2).bind fun bt107 => ((arm_Curved.f k l0 a2).bind fun bt111 => ((dropperref03_Curved.f k l0 a2).bind fun bt115 => (if (bt103.1 == bt107.1 && (bt103.2.1 == bt107.2.1)) = true then (if bt103.2.2 = bt107.2.2 then ((dropperlaw03_same.f k bt111.1 bt115.1).bind fun t119 => (if t119 = true then (if bt111.2 = bt115.2 then ((dropperlaw03_First.f k).bind fun t120 => (some t120)) else (some false)) else (some false))) else (some false)) else (some false)))))) = some r := by rw [if_neg (show ¬ (false = true) by decide)] at H; exact H
  clear H
  have H := H1
  clear H1
  replace H := Option.bind_eq_some_iff.mp H
  obtain ⟨⟨t103, t104, t105⟩, A80, H⟩ := H
  replace H : ((dropperref03_Versine.f k a1 a2).bind fun bt107 => ((arm_Curved.f k l0 a2).bind fun bt111 => ((dropperref03_Curved.f k l0 a2).bind fun bt115 => (if (t103 == bt107.1 && (t104 == bt107.2.1)) = true then (if t105 = bt107.2.2 then ((dropperlaw03_same.f k bt111.1 bt115.1).bind fun t119 => (if t119 = true then (if bt111.2 = bt115.2 then ((dropperlaw03_First.f k).bind fun t120 => (some t120)) else (some false)) else (some false))) else (some false)) else (some false))))) = some r := H
  have A8 := Aside0.mk A80
  clear A80
  replace H := Option.bind_eq_some_iff.mp H
  obtain ⟨⟨t107, t108, t109⟩, A90, H⟩ := H
  replace H : ((arm_Curved.f k l0 a2).bind fun bt111 => ((dropperref03_Curved.f k l0 a2).bind fun bt115 => (if (t103 == t107 && (t104 == t108)) = true then (if t105 = t109 then ((dropperlaw03_same.f k bt111.1 bt115.1).bind fun t119 => (if t119 = true then (if bt111.2 = bt115.2 then ((dropperlaw03_First.f k).bind fun t120 => (some t120)) else (some false)) else (some false))) else (some false)) else (some false)))) = some r := H
  have A9 := Aside0.mk A90
  clear A90
  replace H := Option.bind_eq_some_iff.mp H
  obtain ⟨⟨t111, t112⟩, A100, H⟩ := H
  replace H : ((dropperref03_Curved.f k l0 a2).bind fun bt115 => (if (t103 == t107 && (t104 == t108)) = true then (if t105 = t109 then ((dropperlaw03_same.f k t111 bt115.1).bind fun t119 => (if t119 = true then (if t112 = bt115.2 then ((dropperlaw03_First.f k).bind fun t120 => (some t120)) else (some false)) else (some false))) else (some false)) else (some false))) = some r := H
  have A10 := Aside0.mk A100
  clear A100
  replace H := Option.bind_eq_some_iff.mp H
  obtain ⟨⟨t115, t116⟩, A110, H⟩ := H
  replace H : (if (t103 == t107 && (t104 == t108)) = true then (if t105 = t109 then ((dropperlaw03_same.f k t111 t115).bind fun t119 => (if t119 = true then (if t112 = t116 then ((dropperlaw03_First.f k).bind fun t120 => (some t120)) else (some false)) else (some false))) else (some false)) else (some false)) = some r := H
  have A11 := Aside0.mk A110
  clear A110
  by_cases c12 : (t103 == t107 && (t104 == t108)) = true
  rotate_left
  · rw [if_neg c12] at H
    have c12b0 : (t103 == t107 && (t104 == t108)) = false := by simpa using c12
    (try (have c12b1 : decide (t103 = t107 && (t104 == t108)) = false := by simpa using c12))
    (try (have c12b2 : (t103 == t107 && (t104 == t108)) = false := by simpa using c12))
    (try (have c12b3 : ¬ (t103 = t107 && (t104 == t108)) := by simpa using c12))
    clear c12
    exact absurd (hT.symm.trans (Option.some.inj H).symm) (by decide)

  rw [if_pos c12] at H
  have c12b0 : (t103 == t107 && (t104 == t108)) = true := c12
  (try (have c12b1 : decide (t103 = t107 && (t104 == t108)) = true := by simpa using c12))
  (try (have c12b2 : (t103 == t107 && (t104 == t108)) = true := by simpa using c12))
  clear c12
  by_cases c13 : t105 = t109
  rotate_left
  · rw [if_neg c13] at H
    have c13b0 : (t105 == t109) = false := beq_eq_false_iff_ne.mpr c13
    have c13b1 : (t105 != t109) = true := bne_iff_ne.mpr c13
    exact absurd (hT.symm.trans (Option.some.inj H).symm) (by decide)
  rw [if_pos c13] at H
  have c13b0 : (t105 == t109) = true := beq_iff_eq.mpr c13
  have c13b1 : (t105 != t109) = false := bne_eq_false_iff_eq.mpr c13
  clear c13
  replace H := Option.bind_eq_some_iff.mp H
  obtain ⟨t119, A140, H⟩ := H
  replace H : (if t119 = true then (if t112 = t116 then ((dropperlaw03_First.f k).bind fun t120 => (some t120)) else (some false)) else (some false)) = some r := H
  have A14 := Aside0.mk A140
  clear A140
  by_cases c15 : t119 = true
  rotate_left
  · replace c15 := Bool.eq_false_iff.mpr c15
    subst c15
    have H1 : (some false) = some r := by rw [if_neg (show ¬ (false = true) by decide)] at H; exact H
    clear H
    have H := H1
    clear H1
    exact absurd (hT.symm.trans (Option.some.inj H).symm) (by decide)
  subst c15
  have H1 : (if t112 = t116 then ((dropperlaw03_First.f k).bind fun t120 => (some t120)) else (some false)) = some r := by rw [if_pos rfl] at H; exact H
  clear H
  have H := H1
  clear H1
  by_cases c16 : t112 = t116
  rotate_left
  · rw [if_neg c16] at H
    have c16b0 : (t112 == t116) = false := beq_eq_false_iff_ne.mpr c16
    have c16b1 : (t112 != t116) = true := bne_iff_ne.mpr c16
    exact absurd (hT.symm.trans (Option.some.inj H).symm) (by decide)
  rw [if_pos c16] at H
  have c16b0 : (t112 == t116) = true := beq_iff_eq.mpr c16
  have c16b1 : (t112 != t116) = false := bne_eq_false_iff_eq.mpr c16
  clear c16
  replace H := Option.bind_eq_some_iff.mp H
  obtain ⟨t120, A170, H⟩ := H
  replace H : (some t120) = some r := H
  have A17 := Aside0.mk A170
  clear A170
  clear hT
  obtain rfl := Option.some.inj H
  go_enter Try.func8, Try.ntmps8
  go_wp2_with (first | ((with_reducible refine gate_callee (f := 15) rfl ?_); refine goesL_ (some 16) rfl rfl Try.func15 (by kernel_rfl) rfl #[.slice A0 l0.length c0] rfl (by (try simp only [List.map_toArray, List.map_cons, List.map_nil]); first | done | rfl | (simp only [List.length_drop, List.length_take]; rfl)) ?_; (with_reducible refine (dropperlaw03_Long.calls _ _ l0 false _ ?side1 ?side2 A4.out).mono ?_); (case side1 => repeat (first | exact HR0.out | (with_reducible refine Kd.C_alloc ?_ _) | (with_reducible refine Kd.C_drewN ?_ _) | (with_reducible refine Kd.C_drew ?_))); (case side2 => exact HC0.out); rintro e w' ⟨rfl, ⟨nd, rfl⟩⟩; refine ⟨_, rfl, ?_⟩) | ((with_reducible refine gate_callee (f := 13) rfl ?_); refine goesL_ (some 21) rfl rfl Try.func13 (by kernel_rfl) rfl #[.int .i64 a1, .int .i64 a2] rfl (by (try simp only [List.map_toArray, List.map_cons, List.map_nil]); first | done | rfl | (simp only [List.length_drop, List.length_take]; rfl)) ?_; (with_reducible refine (arm_Versine.calls k a1 a2 t103 t104 t105 _ A8.out).mono ?_); rintro e w18 ⟨rfl, hb⟩; refine ⟨_, rfl, ?_⟩; have n0_ := Aside0.mk (below_step (by repeat (first | (with_reducible first | exact HB.out | apply below_alloc | apply pw_below_drewN | apply below_drew1) | exact HB.out)) hb); clear HB; have HB := n0_; clear n0_; (try clear hb); (try clear hb2); (try clear hk); (try clear hi)) | ((with_reducible refine gate_dst (N := 7) rfl ?_); refine box_event ?hg (N := 7) ?hd (cs := #[.int .i64 0, .int .i64 0]) (t := 24) ?hr ?_; (case hd => rfl); (case hg => rfl); (case hr => first | (go_simp; done) | (go_simp; rfl)); intro gb106 hg w19 hbox hb; have n0_ := Aside0.mk (below_step (by repeat (first | (with_reducible first | exact HB.out | apply below_alloc | apply pw_below_drewN | apply below_drew1) | exact HB.out)) hb); have n1_ := Aside0.mk (hbox); have n2_ := Aside0.mk ((by rw [hg]; exact (below_size (by repeat (first | (with_reducible first | exact HB.out | apply below_alloc | apply pw_below_drewN | apply below_drew1) | exact HB.out))) : w.heap.size ≤ gb106)); have n3_ := Aside0.mk ((by rw [hg]; exact (below_size (by repeat (first | (with_reducible first | exact HB.out | apply below_alloc | apply pw_below_drewN | apply below_drew1) | exact HB.out))) : w.heap.size ≤ gb106)); clear HB; have HB := n0_; have BK106 := n1_; have GW106 := n2_; have GE106 := n3_; clear n0_ n1_ n2_ n3_; clear hb hbox hg; have hcz20_0 : w19.cell? ⟨gb106, 0, none⟩ = some (.int .i64 0) := (blk_cell BK106.out 0).trans rfl; have hcz20_1 : w19.cell? ⟨gb106, 1, none⟩ = some (.int .i64 0) := (blk_cell BK106.out 1).trans rfl; have hfz20_0 := blk_frozen BK106.out 0; have hfz20_1 := blk_frozen BK106.out 1) | ((with_reducible refine gate_callee (f := 35) rfl ?_); refine goesL_ (some 27) rfl rfl Try.func35 (by kernel_rfl) rfl #[.int .i64 a1, .int .i64 a2] rfl (by (try simp only [List.map_toArray, List.map_cons, List.map_nil]); first | done | rfl | (simp only [List.length_drop, List.length_take]; rfl)) ?_; (with_reducible refine (dropperref03_Versine.calls k a1 a2 t107 t108 t109 _ A9.out).mono ?_); rintro e w21 ⟨rfl, hb⟩; refine ⟨_, rfl, ?_⟩; have n0_ := Aside0.mk (blk_below (g := gb106) (o := .cells #[.int .i64 t103, .int .i64 t104] 24 (0, 0)) (by (with_reducible repeat (first | refine blk_drewN ?_ _ | refine blk_drew ?_ | refine blk_alloc ?_ _)); refine blk_put (cs := #[.int .i64 t103, .int .i64 0]) ?_ 1 _ rfl; (with_reducible repeat (first | refine blk_drewN ?_ _ | refine blk_drew ?_ | refine blk_alloc ?_ _)); refine blk_put (cs := #[.int .i64 0, .int .i64 0]) ?_ 0 _ rfl; (with_reducible repeat (first | refine blk_drewN ?_ _ | refine blk_drew ?_ | refine blk_alloc ?_ _)); exact BK106.out) hb); have n1_ := Aside0.mk (below_step (by repeat (first | (with_reducible first | exact HB.out | apply below_alloc | apply pw_below_drewN | apply below_drew1 | refine below_set ?_ GE106.out) | exact HB.out)) hb); clear BK106; clear HB; have BK106 := n0_; have HB := n1_; clear n0_ n1_; (try clear hb); (try clear hb2); (try clear hk); (try clear hi)) | ((with_reducible refine gate_dst (N := 9) rfl ?_); refine box_event ?hg (N := 9) ?hd (cs := #[.int .i64 0, .int .i64 0]) (t := 24) ?hr ?_; (case hd => rfl); (case hg => rfl); (case hr => first | (go_simp; done) | (go_simp; rfl)); intro gb110 hg w22 hbox hb; have n0_ := Aside0.mk (bkB BK106 hb); have n1_ := Aside0.mk (below_step (by repeat (first | (with_reducible first | exact HB.out | apply below_alloc | apply pw_below_drewN | apply below_drew1 | refine below_set ?_ GE106.out) | exact HB.out)) hb); have n2_ := Aside0.mk (hbox); have n3_ := Aside0.mk ((by rw [hg]; exact (below_size (by repeat (first | (with_reducible first | exact HB.out | apply below_alloc | apply pw_below_drewN | apply below_drew1 | refine below_set ?_ GE106.out) | exact HB.out))) : w.heap.size ≤ gb110)); have n4_ := Aside0.mk ((by rw [hg]; exact (below_size (by repeat (first | (with_reducible first | exact HB.out | apply below_alloc | apply pw_below_drewN | apply below_drew1 | refine below_set ?_ GE106.out) | exact HB.out))) : w.heap.size ≤ gb110)); have n5_ := Aside0.mk ((bkL BK106 hg : gb106 ≠ gb110)); have n6_ := Aside0.mk ((bkG BK106 hg : gb110 ≠ gb106)); clear BK106; clear HB; have BK106 := n0_; have HB := n1_; have BK110 := n2_; have GW110 := n3_; have GE110 := n4_; have NB106_110 := n5_; have NB110_106 := n6_; clear n0_ n1_ n2_ n3_ n4_ n5_ n6_; clear hb hbox hg; have hnb23 := NB110_106.out; have hnc23 := NB106_110.out; have hcz24_0 : w22.cell? ⟨gb110, 0, none⟩ = some (.int .i64 0) := (blk_cell BK110.out 0).trans rfl; have hcz24_1 : w22.cell? ⟨gb110, 1, none⟩ = some (.int .i64 0) := (blk_cell BK110.out 1).trans rfl; have hfz24_0 := blk_frozen BK110.out 0; have hfz24_1 := blk_frozen BK110.out 1) | ((with_reducible refine gate_callee (f := 36) rfl ?_); refine goesL_ (some 33) rfl rfl Try.func36 (by kernel_rfl) rfl #[.slice A0 l0.length c0, .int .i64 a2] rfl (by (try simp only [List.map_toArray, List.map_cons, List.map_nil]); first | done | rfl | (simp only [List.length_drop, List.length_take]; rfl)) ?_; (with_reducible refine (arm_Curved.calls k _ _ l0 a2 t111 t112 _ ?side1 ?side2 A10.out).mono ?_); (case side1 => exact Kd.C_below HR0.out (by repeat (first | (with_reducible first | exact HB.out | apply below_alloc | apply pw_below_drewN | apply below_drew1 | refine below_set ?_ GE106.out | refine below_set ?_ GE110.out) | exact HB.out))); (case side2 => exact HC0.out); rintro e w25 ⟨v113, rfl, ho0, hb⟩; refine ⟨_, rfl, ?_⟩; have n0_ := Aside0.mk (Kd.R_lower ho0 (below_size (by repeat (first | (with_reducible first | exact HB.out | apply below_alloc | apply pw_below_drewN | apply below_drew1 | refine below_set ?_ GE106.out | refine below_set ?_ GE110.out) | exact HB.out)))); have n1_ := Aside0.mk (blk_below (g := gb106) (o := .cells #[.int .i64 t103, .int .i64 t104] 24 (0, 0)) (bkF2 BK106 NB106_110) hb); have n2_ := Aside0.mk (blk_below (g := gb110) (o := .cells #[.int .i64 t107, .int .i64 t108] 24 (0, 0)) (by (with_reducible repeat (first | refine blk_drewN ?_ _ | refine blk_drew ?_ | refine blk_alloc ?_ _)); refine blk_put (cs := #[.int .i64 t107, .int .i64 0]) ?_ 1 _ rfl; (with_reducible repeat (first | refine blk_drewN ?_ _ | refine blk_drew ?_ | refine blk_alloc ?_ _)); refine blk_put (cs := #[.int .i64 0, .int .i64 0]) ?_ 0 _ rfl; (with_reducible repeat (first | refine blk_drewN ?_ _ | refine blk_drew ?_ | refine blk_alloc ?_ _)); exact BK110.out) hb); have n3_ := Aside0.mk (below_step (by repeat (first | (with_reducible first | exact HB.out | apply below_alloc | apply pw_below_drewN | apply below_drew1 | refine below_set ?_ GE106.out | refine below_set ?_ GE110.out) | exact HB.out)) hb); clear BK106; clear BK110; clear HB; have HO114 := n0_; have BK106 := n1_; have BK110 := n2_; have HB := n3_; clear n0_ n1_ n2_ n3_; (try clear hb); (try clear hb2); (try clear hk); (try clear hi); (try clear ho0)) | ((with_reducible refine gate_callee (f := 37) rfl ?_); refine goesL_ (some 39) rfl rfl Try.func37 (by kernel_rfl) rfl #[.slice A0 l0.length c0, .int .i64 a2] rfl (by (try simp only [List.map_toArray, List.map_cons, List.map_nil]); first | done | rfl | (simp only [List.length_drop, List.length_take]; rfl)) ?_; (with_reducible refine (dropperref03_Curved.calls k _ _ l0 a2 t115 t116 _ ?side1 ?side2 A11.out).mono ?_); (case side1 => repeat (first | exact (Kd.C_below HR0.out HB.out) | (with_reducible refine Kd.C_alloc ?_ _) | (with_reducible refine Kd.C_drewN ?_ _) | (with_reducible refine Kd.C_drew ?_))); (case side2 => exact HC0.out); rintro e w26 ⟨v117, rfl, ho0, hb⟩; refine ⟨_, rfl, ?_⟩; have n0_ := Aside0.mk (Kd.R_elder' (by (with_reducible repeat (first | apply Kd.R_alloc | apply Kd.R_drewN | apply Kd.R_drew)); exact HO114.out) (Kd.R_base ho0) hb); have n1_ := Aside0.mk (Kd.R_lower (Kd.R_new' ho0 (Kd.R_lt (by (with_reducible repeat (first | apply Kd.R_alloc | apply Kd.R_drewN | apply Kd.R_drew)); exact HO114.out))) (below_size (by repeat (first | (with_reducible first | exact HB.out | apply below_alloc | apply pw_below_drewN | apply below_drew1 | refine below_set ?_ GE106.out | refine below_set ?_ GE110.out) | exact HB.out)))); have n2_ := Aside0.mk (bkB BK106 hb); have n3_ := Aside0.mk (bkB BK110 hb); have n4_ := Aside0.mk (below_step (by repeat (first | (with_reducible first | exact HB.out | apply below_alloc | apply pw_below_drewN | apply below_drew1 | refine below_set ?_ GE106.out | refine below_set ?_ GE110.out) | exact HB.out)) hb); clear HO114; clear BK106; clear BK110; clear HB; have HO114 := n0_; have HO118 := n1_; have BK106 := n2_; have BK110 := n3_; have HB := n4_; clear n0_ n1_ n2_ n3_ n4_; (try clear hb); (try clear hb2); (try clear hk); (try clear hi); (try clear ho0); have hcz27_0 : w26.cell? ⟨gb106, 0, none⟩ = some (.int .i64 t103) := (blk_cell BK106.out 0).trans rfl; have hcz27_1 : w26.cell? ⟨gb106, 1, none⟩ = some (.int .i64 t104) := (blk_cell BK106.out 1).trans rfl; have hfz27_0 := blk_frozen BK106.out 0; have hfz27_1 := blk_frozen BK106.out 1; have hcz28_0 : w26.cell? ⟨gb110, 0, none⟩ = some (.int .i64 t107) := (blk_cell BK110.out 0).trans rfl; have hcz28_1 : w26.cell? ⟨gb110, 1, none⟩ = some (.int .i64 t108) := (blk_cell BK110.out 1).trans rfl; have hfz28_0 := blk_frozen BK110.out 0; have hfz28_1 := blk_frozen BK110.out 1; obtain ⟨Ao29, co29, eo29⟩ := Kd.R_slice HO114.out; subst eo29; obtain ⟨Ao30, co30, eo30⟩ := Kd.R_slice HO118.out; subst eo30) | (go_at_call 38; (with_reducible refine (dropperlaw03_same.calls k _ _ t111 _ _ t115 true _ ?side1 ?side2 ?side3 ?side4 A14.out).mono ?_); (case side1 => repeat (first | exact (Kd.R_reads' HO114.out).2.2 | (with_reducible refine Kd.C_alloc ?_ _) | (with_reducible refine Kd.C_drewN ?_ _) | (with_reducible refine Kd.C_drew ?_))); (case side2 => exact (Kd.R_reads' HO114.out).2.1); (case side3 => repeat (first | exact (Kd.R_reads' HO118.out).2.2 | (with_reducible refine Kd.C_alloc ?_ _) | (with_reducible refine Kd.C_drewN ?_ _) | (with_reducible refine Kd.C_drew ?_))); (case side4 => exact (Kd.R_reads' HO118.out).2.1); rintro e w' ⟨rfl, ⟨nd, rfl⟩⟩) | (go_at_call 14; (with_reducible refine (dropperlaw03_First.calls k  t120 _ A17.out).mono ?_); rintro e w31 ⟨rfl, hb⟩; have n0_ := Aside0.mk (Kd.R_below (by (with_reducible repeat (first | apply Kd.R_alloc | apply Kd.R_drewN | apply Kd.R_drew)); exact HO114.out) hb); have n1_ := Aside0.mk (Kd.R_below (by (with_reducible repeat (first | apply Kd.R_alloc | apply Kd.R_drewN | apply Kd.R_drew)); exact HO118.out) hb); have n2_ := Aside0.mk (bkB BK106 hb); have n3_ := Aside0.mk (bkB BK110 hb); have n4_ := Aside0.mk (below_step (by repeat (first | (with_reducible first | exact HB.out | apply below_alloc | apply pw_below_drewN | apply below_drew1 | refine below_set ?_ GE106.out | refine below_set ?_ GE110.out) | exact HB.out)) hb); clear HO114; clear HO118; clear BK106; clear BK110; clear HB; have HO114 := n0_; have HO118 := n1_; have BK106 := n2_; have BK110 := n3_; have HB := n4_; clear n0_ n1_ n2_ n3_ n4_; (try clear hb); (try clear hb2); (try clear hk); (try clear hi)))
  go_ret
  exact ⟨by first | rfl | (simp [errW_none, errW_some] <;> rfl) | (simp [*, errW_none, errW_some] <;> rfl), by repeat (first | (with_reducible first | exact HB.out | apply below_alloc | apply pw_below_drewN | apply below_drew1 | refine below_set ?_ GE106.out | refine below_set ?_ GE110.out) | exact HB.out)⟩
end Go.Proofs.Ytiapmkndgalgnaa.G
