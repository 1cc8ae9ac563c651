-- Written by this session's driver (wip/tools/printmore.py) over the kit's print, with hand-written parts.
import Derived.Test.YtiapmkndgalgnaaGBase
import Derived.Test.YtiapmkndgalgnaaGQ24
import Derived.Test.YtiapmkndgalgnaaGF14
import Derived.Test.YtiapmkndgalgnaaGF15
import Derived.Test.YtiapmkndgalgnaaGF26
import Derived.Test.YtiapmkndgalgnaaGF32
import Derived.Test.YtiapmkndgalgnaaGF33
import Derived.Test.YtiapmkndgalgnaaGF34
namespace Go.Proofs.Ytiapmkndgalgnaa.G
open Go.RowKit Go.Proofs.YtiapmkndgalgnaaW.PrintWords Go.Proofs.YtiapmkndgalgnaaW.PrintLast Go.Proofs.YtiapmkndgalgnaaW.PrintMore
attribute [local go_sem] max2_int min2_int max_two min_two max_three min_three max_four min_four   -- for this text's walks alone
set_option linter.unusedVariables false
set_option linter.unusedSimpArgs false

attribute [local go_sem high] eqA24
/-! ### dropperlaw03_ArmThrough: function 7 -/
def dropperlaw03_ArmThrough.f (k : Nat) (l0 : List (S73)) (a1_0 : Int) (a1_1 : Int) (a1_2 : Int) (a2 : Int) : Option (Bool) := (dropperlaw03_Long.f l0).bind fun t102 => (if t102 = true then ((dropperlaw03_First.f k).bind fun t103 => (some t103)) else ((arm_Through.f k l0 a1_0 a1_1 a1_2).bind fun bt104 => ((dropperref03_Through.f k l0 a1_0 a1_1 a1_2).bind fun bt106 => ((arm_Where.f k a1_0 a1_1 a1_2 a2).bind fun bt108 => ((dropperref03_Where.f k a1_0 a1_1 a1_2 a2).bind fun bt112 => (if (bt104.1 == bt106.1) = true then (if bt104.2 = bt106.2 then (if (bt108.1 == bt112.1 && (bt108.2.1 == bt112.2.1)) = true then (if bt108.2.2 = bt112.2.2 then ((dropperlaw03_First.f k).bind fun t116 => (some t116)) else (some false)) else (some false)) else (some false)) else (some false)))))))
theorem dropperlaw03_ArmThrough.mono : ∀ a0 a1 a2 a3 a4 k, LeO (dropperlaw03_ArmThrough.f k a0 a1 a2 a3 a4) (dropperlaw03_ArmThrough.f (k + 1) a0 a1 a2 a3 a4) := by
  intro a0 a1 a2 a3 a4 k
  unfold dropperlaw03_ArmThrough.f
  repeat' first
      | (with_reducible exact arm_Through.mono _ _ _ _ _)
      | (with_reducible exact arm_Where.mono _ _ _ _ _)
      | (with_reducible exact dropperlaw03_First.mono _)
      | (with_reducible exact dropperref03_Through.mono _ _ _ _ _)
      | (with_reducible exact dropperref03_Where.mono _ _ _ _ _)
      | (with_reducible exact LeO.refl _)
      | (with_reducible exact LeO.none _)
      | (with_reducible refine LeO.ite ?_ ?_)
      | (with_reducible refine LeO.bind ?_ (fun _ => ?_))
      | exact arm_Through.mono _ _ _ _ _
      | exact arm_Where.mono _ _ _ _ _
      | exact dropperlaw03_First.mono _
      | exact dropperref03_Through.mono _ _ _ _ _
      | exact dropperref03_Where.mono _ _ _ _ _
      | exact LeO.none _
      | refine LeO.ite ?_ ?_
      | refine LeO.bind ?_ (fun _ => ?_)
set_option maxHeartbeats 8000000 in
set_option maxRecDepth 100000 in
theorem dropperlaw03_ArmThrough.calls (k : Nat) (A0 : Option Addr) (c0 : Nat) (l0 : List (S73)) (a1_0 : Int) (a1_1 : Int) (a1_2 : Int) (a2 : Int) (r : Bool) (w : World) (hr0 : Kd.C k73 w A0 l0.length l0) (hc0 : l0.length ≤ c0) (h : dropperlaw03_ArmThrough.f k l0 a1_0 a1_1 a1_2 a2 = some r) (hT : r = true) :
    Calls Try.prog 7 #[.slice A0 l0.length c0, .agg #[.int .i64 a1_0, .int .i64 a1_1, .int .i64 a1_2], .int .i64 a2] w fun e w' => e = .returned (.bool r) ∧ Below w.heap.size w w' := by
  have hu41 := Try.underlying41
  have hu24 := Try.underlying24
  have HR0 := Aside0.mk hr0
  have HC0 := Aside0.mk hc0
  clear hr0 hc0
  have HB := Aside0.mk (Below.refl w.heap.size w)
  have H : ((dropperlaw03_Long.f l0).bind fun t102 => (if t102 = true then ((dropperlaw03_First.f k).bind fun t103 => (some t103)) else ((arm_Through.f k l0 a1_0 a1_1 a1_2).bind fun bt104 => ((dropperref03_Through.f k l0 a1_0 a1_1 a1_2).bind fun bt106 => ((arm_Where.f k a1_0 a1_1 a1_2 a2).bind fun bt108 => ((dropperref03_Where.f k a1_0 a1_1 a1_2 a2).bind fun bt112 => (if (bt104.1 == bt106.1) = true then (if bt104.2 = bt106.2 then (if (bt108.1 == bt112.1 && (bt108.2.1 == bt112.2.1)) = true then (if bt108.2.2 = bt112.2.2 then ((dropperlaw03_First.f k).bind fun t116 => (some t116)) else (some false)) else (some false)) else (some false)) else (some false)))))))) = some r := h
  clear h
  replace H := Option.bind_eq_some_iff.mp H
  obtain ⟨t102, A40, H⟩ := H
  replace H : (if t102 = true then ((dropperlaw03_First.f k).bind fun t103 => (some t103)) else ((arm_Through.f k l0 a1_0 a1_1 a1_2).bind fun bt104 => ((dropperref03_Through.f k l0 a1_0 a1_1 a1_2).bind fun bt106 => ((arm_Where.f k a1_0 a1_1 a1_2 a2).bind fun bt108 => ((dropperref03_Where.f k a1_0 a1_1 a1_2 a2).bind fun bt112 => (if (bt104.1 == bt106.1) = true then (if bt104.2 = bt106.2 then (if (bt108.1 == bt112.1 && (bt108.2.1 == bt112.2.1)) = true then (if bt108.2.2 = bt112.2.2 then ((dropperlaw03_First.f k).bind fun t116 => (some t116)) else (some false)) else (some false)) else (some false)) else (some false))))))) = some r := H
  have A4 := Aside0.mk A40
  clear A40
  by_cases c5 : t102 = true
  · subst c5
    have H1 : ((dropperlaw03_First.f k).bind fun t103 => (some t103)) = some r := by rw [if_pos rfl] at H; exact H
    clear H
    have H := H1
    clear H1
    replace H := Option.bind_eq_some_iff.mp H
    obtain ⟨t103, A60, H⟩ := H
    replace H : (some t103) = some r := H
    have A6 := Aside0.mk A60
    clear A60
    clear hT
    obtain rfl := Option.some.inj H
    go_enter Try.func7, Try.ntmps7
    go_wp2_with (first | ((with_reducible refine gate_dst (N := 4) rfl ?_); refine box_event ?hg (N := 4) ?hd (cs := #[.int .i64 a1_0, .int .i64 a1_1, .int .i64 a1_2]) (t := 41) ?hr ?_; (case hd => rfl); (case hg => rfl); (case hr => first | (go_simp; done) | (go_simp; rfl)); intro gb101 hg w7 hbox hb; have n0_ := Aside0.mk (below_step (by repeat (first | (with_reducible first | exact HB.out | apply below_alloc | apply pw_below_drewN | apply below_drew1) | exact HB.out)) hb); have n1_ := Aside0.mk (hbox); have n2_ := Aside0.mk ((by rw [hg]; exact (below_size (by repeat (first | (with_reducible first | exact HB.out | apply below_alloc | apply pw_below_drewN | apply below_drew1) | exact HB.out))) : w.heap.size ≤ gb101)); have n3_ := Aside0.mk ((by rw [hg]; exact (below_size (by repeat (first | (with_reducible first | exact HB.out | apply below_alloc | apply pw_below_drewN | apply below_drew1) | exact HB.out))) : w.heap.size ≤ gb101)); clear HB; have HB := n0_; have BK101 := n1_; have GW101 := n2_; have GE101 := n3_; clear n0_ n1_ n2_ n3_; clear hb hbox hg) | ((with_reducible refine gate_callee (f := 15) rfl ?_); refine goesL_ (some 16) rfl rfl Try.func15 (by kernel_rfl) rfl #[.slice A0 l0.length c0] rfl (by (try simp only [List.map_toArray, List.map_cons, List.map_nil]); first | done | rfl | (simp only [List.length_drop, List.length_take]; rfl)) ?_; (with_reducible refine (dropperlaw03_Long.calls _ _ l0 true _ ?side1 ?side2 A4.out).mono ?_); (case side1 => repeat (first | exact (Kd.C_below HR0.out HB.out) | (with_reducible refine Kd.C_alloc ?_ _) | (with_reducible refine Kd.C_drewN ?_ _) | (with_reducible refine Kd.C_drew ?_))); (case side2 => exact HC0.out); rintro e w' ⟨rfl, ⟨nd, rfl⟩⟩; refine ⟨_, rfl, ?_⟩) | ((with_reducible refine gate_callee (f := 14) rfl ?_); refine goesL_ (some 17) rfl rfl Try.func14 (by kernel_rfl) rfl #[] rfl (by (try simp only [List.map_toArray, List.map_cons, List.map_nil]); first | done | rfl | (simp only [List.length_drop, List.length_take]; rfl)) ?_; (with_reducible refine (dropperlaw03_First.calls k  t103 _ A6.out).mono ?_); rintro e w8 ⟨rfl, hb⟩; refine ⟨_, rfl, ?_⟩; have n0_ := Aside0.mk (bkB BK101 hb); have n1_ := Aside0.mk (below_step (by repeat (first | (with_reducible first | exact HB.out | apply below_alloc | apply pw_below_drewN | apply below_drew1 | refine below_set ?_ GE101.out) | exact HB.out)) hb); clear BK101; clear HB; have BK101 := n0_; have HB := n1_; clear n0_ n1_; (try clear hb); (try clear hb2); (try clear hk); (try clear hi)))
    go_ret
    exact ⟨by first | rfl | (simp [errW_none, errW_some] <;> rfl) | (simp [*, errW_none, errW_some] <;> rfl), by repeat (first | (with_reducible first | exact HB.out | apply below_alloc | apply pw_below_drewN | apply below_drew1 | refine below_set ?_ GE101.out) | exact HB.out)⟩
  replace c5 := Bool.eq_false_iff.mpr c5
  subst c5
  have H1 : ((arm_Through.f k l0 a1_0 a1_1 a1_2).bind fun bt104 => ((dropperref03_Through.f k l0 a1_0 a1_1 a1_2).bind fun bt106 => ((arm_Where.f k a1_0 a1_1 a1_2 a2).bind fun bt108 => ((dropperref03_Where.f k a1_0 a1_1 a1_2 a2).bind fun bt112 => (if (bt104.1 == bt106.1) = true then (if bt104.2 = bt106.2 then (if (bt108.1 == bt112.1 && (bt108.2.1 == bt112.2.1)) = true then (if bt108.2.2 = bt112.2.2 then ((dropperlaw03_First.f k).bind fun t116 => (some t116)) else (some false)) else (some false)) else (some false)) else (some false)))))) = some r := by rw [if_neg (show ¬ (false = true) by decide)] at H; exact H
  clear H
  have H := H1
  clear H1
  replace H := Option.bind_eq_some_iff.mp H
  obtain ⟨⟨t104, t105⟩, A90, H⟩ := H
  replace H : ((dropperref03_Through.f k l0 a1_0 a1_1 a1_2).bind fun bt106 => ((arm_Where.f k a1_0 a1_1 a1_2 a2).bind fun bt108 => ((dropperref03_Where.f k a1_0 a1_1 a1_2 a2).bind fun bt112 => (if (t104 == bt106.1) = true then (if t105 = bt106.2 then (if (bt108.1 == bt112.1 && (bt108.2.1 == bt112.2.1)) = true then (if bt108.2.2 = bt112.2.2 then ((dropperlaw03_First.f k).bind fun t116 => (some t116)) else (some false)) else (some false)) else (some false)) else (some false))))) = some r := H
  have A9 := Aside0.mk A90
  clear A90
  replace H := Option.bind_eq_some_iff.mp H
  obtain ⟨⟨t106, t107⟩, A100, H⟩ := H
  replace H : ((arm_Where.f k a1_0 a1_1 a1_2 a2).bind fun bt108 => ((dropperref03_Where.f k a1_0 a1_1 a1_2 a2).bind fun bt112 => (if (t104 == t106) = true then (if t105 = t107 then (if (bt108.1 == bt112.1 && (bt108.2.1 == bt112.2.1)) = true then (if bt108.2.2 = bt112.2.2 then ((dropperlaw03_First.f k).bind fun t116 => (some t116)) else (some false)) else (some false)) else (some false)) else (some false)))) = some r := H
  have A10 := Aside0.mk A100
  clear A100
  replace H := Option.bind_eq_some_iff.mp H
  obtain ⟨⟨t108, t109, t110⟩, A110, H⟩ := H
  replace H : ((dropperref03_Where.f k a1_0 a1_1 a1_2 a2).bind fun bt112 => (if (t104 == t106) = true then (if t105 = t107 then (if (t108 == bt112.1 && (t109 == bt112.2.1)) = true then (if t110 = bt112.2.2 then ((dropperlaw03_First.f k).bind fun t116 => (some t116)) else (some false)) else (some false)) else (some false)) else (some false))) = some r := H
  have A11 := Aside0.mk A110
  clear A110
  replace H := Option.bind_eq_some_iff.mp H
  obtain ⟨⟨t112, t113, t114⟩, A120, H⟩ := H
  replace H : (if (t104 == t106) = true then (if t105 = t107 then (if (t108 == t112 && (t109 == t113)) = true then (if t110 = t114 then ((dropperlaw03_First.f k).bind fun t116 => (some t116)) else (some false)) else (some false)) else (some false)) else (some false)) = some r := H
  have A12 := Aside0.mk A120
  clear A120
  by_cases c13 : (t104 == t106) = true
  rotate_left
  · rw [if_neg c13] at H
    have c13b0 : (t104 == t106) = false := by simpa using c13
    (try (have c13b1 : decide (t104 = t106) = false := by simpa using c13))
    (try (have c13b2 : (t104 == t106) = false := by simpa using c13))
    (try (have c13b3 : ¬ (t104 = t106) := by simpa using c13))
    clear c13
    exact absurd (hT.symm.trans (Option.some.inj H).symm) (by decide)

  rw [if_pos c13] at H
  have c13b0 : (t104 == t106) = true := c13
  (try (have c13b1 : decide (t104 = t106) = true := by simpa using c13))
  (try (have c13b2 : (t104 == t106) = true := by simpa using c13))
  clear c13
  by_cases c14 : t105 = t107
  rotate_left
  · rw [if_neg c14] at H
    have c14b0 : (t105 == t107) = false := beq_eq_false_iff_ne.mpr c14
    have c14b1 : (t105 != t107) = true := bne_iff_ne.mpr c14
    exact absurd (hT.symm.trans (Option.some.inj H).symm) (by decide)
  rw [if_pos c14] at H
  have c14b0 : (t105 == t107) = true := beq_iff_eq.mpr c14
  have c14b1 : (t105 != t107) = false := bne_eq_false_iff_eq.mpr c14
  clear c14
  by_cases c15 : (t108 == t112 && (t109 == t113)) = true
  rotate_left
  · rw [if_neg c15] at H
    have c15b0 : (t108 == t112 && (t109 == t113)) = false := by simpa using c15
    (try (have c15b1 : decide (t108 = t112 && (t109 == t113)) = false := by simpa using c15))
    (try (have c15b2 : (t108 == t112 && (t109 == t113)) = false := by simpa using c15))
    (try (have c15b3 : ¬ (t108 = t112 && (t109 == t113)) := by simpa using c15))
    clear c15
    exact absurd (hT.symm.trans (Option.some.inj H).symm) (by decide)
  rw [if_pos c15] at H
  have c15b0 : (t108 == t112 && (t109 == t113)) = true := c15
  (try (have c15b1 : decide (t108 = t112 && (t109 == t113)) = true := by simpa using c15))
  (try (have c15b2 : (t108 == t112 && (t109 == t113)) = true := by simpa using c15))
  clear c15
  by_cases c16 : t110 = t114
  rotate_left
  · rw [if_neg c16] at H
    have c16b0 : (t110 == t114) = false := beq_eq_false_iff_ne.mpr c16
    have c16b1 : (t110 != t114) = true := bne_iff_ne.mpr c16
    exact absurd (hT.symm.trans (Option.some.inj H).symm) (by decide)
  rw [if_pos c16] at H
  have c16b0 : (t110 == t114) = true := beq_iff_eq.mpr c16
  have c16b1 : (t110 != t114) = false := bne_eq_false_iff_eq.mpr c16
  clear c16
  replace H := Option.bind_eq_some_iff.mp H
  obtain ⟨t116, A170, H⟩ := H
  replace H : (some t116) = some r := H
  have A17 := Aside0.mk A170
  clear A170
  clear hT
  obtain rfl := Option.some.inj H
  go_enter Try.func7, Try.ntmps7
  go_wp2_with (first | ((with_reducible refine gate_dst (N := 4) rfl ?_); refine box_event ?hg (N := 4) ?hd (cs := #[.int .i64 a1_0, .int .i64 a1_1, .int .i64 a1_2]) (t := 41) ?hr ?_; (case hd => rfl); (case hg => rfl); (case hr => first | (go_simp; done) | (go_simp; rfl)); intro gb101 hg w18 hbox hb; have n0_ := Aside0.mk (below_step (by repeat (first | (with_reducible first | exact HB.out | apply below_alloc | apply pw_below_drewN | apply below_drew1) | exact HB.out)) hb); have n1_ := Aside0.mk (hbox); have n2_ := Aside0.mk ((by rw [hg]; exact (below_size (by repeat (first | (with_reducible first | exact HB.out | apply below_alloc | apply pw_below_drewN | apply below_drew1) | exact HB.out))) : w.heap.size ≤ gb101)); have n3_ := Aside0.mk ((by rw [hg]; exact (below_size (by repeat (first | (with_reducible first | exact HB.out | apply below_alloc | apply pw_below_drewN | apply below_drew1) | exact HB.out))) : w.heap.size ≤ gb101)); clear HB; have HB := n0_; have BK101 := n1_; have GW101 := n2_; have GE101 := n3_; clear n0_ n1_ n2_ n3_; clear hb hbox hg) | ((with_reducible refine gate_callee (f := 15) rfl ?_); refine goesL_ (some 16) rfl rfl Try.func15 (by kernel_rfl) rfl #[.slice A0 l0.length c0] rfl (by (try simp only [List.map_toArray, List.map_cons, List.map_nil]); first | done | rfl | (simp only [List.length_drop, List.length_take]; rfl)) ?_; (with_reducible refine (dropperlaw03_Long.calls _ _ l0 false _ ?side1 ?side2 A4.out).mono ?_); (case side1 => repeat (first | exact (Kd.C_below HR0.out HB.out) | (with_reducible refine Kd.C_alloc ?_ _) | (with_reducible refine Kd.C_drewN ?_ _) | (with_reducible refine Kd.C_drew ?_))); (case side2 => exact HC0.out); rintro e w' ⟨rfl, ⟨nd, rfl⟩⟩; refine ⟨_, rfl, ?_⟩; (try (rw [drewN_self w18]; generalize hq_ : World.drewN w18 _ = w18; have n0_ : Aside0 (w18.heap[gb101]? = some (.cells #[.int .i64 a1_0, .int .i64 a1_1, .int .i64 a1_2] 41 (0, 0))) := ⟨by rw [← hq_]; exact (bkU BK101)⟩; have n1_ : Aside0 (Below w.heap.size w w18) := ⟨by rw [← hq_]; exact (by repeat (first | (with_reducible first | exact HB.out | apply below_alloc | apply pw_below_drewN | apply below_drew1 | refine below_set ?_ GE101.out) | exact HB.out))⟩; clear BK101 HB hq_; have BK101 := n0_; have HB := n1_; clear n0_ n1_)); have hcz19_0 : w18.cell? ⟨gb101, 0, none⟩ = some (.int .i64 a1_0) := (blk_cell BK101.out 0).trans rfl; have hcz19_1 : w18.cell? ⟨gb101, 1, none⟩ = some (.int .i64 a1_1) := (blk_cell BK101.out 1).trans rfl; have hcz19_2 : w18.cell? ⟨gb101, 2, none⟩ = some (.int .i64 a1_2) := (blk_cell BK101.out 2).trans rfl; have hfz19_0 := blk_frozen BK101.out 0; have hfz19_1 := blk_frozen BK101.out 1; have hfz19_2 := blk_frozen BK101.out 2) | ((with_reducible refine gate_callee (f := 32) rfl ?_); refine goesL_ (some 21) rfl rfl Try.func32 (by kernel_rfl) rfl #[.slice A0 l0.length c0, .agg #[.int .i64 a1_0, .int .i64 a1_1, .int .i64 a1_2]] rfl (by (try simp only [List.map_toArray, List.map_cons, List.map_nil]); first | done | rfl | (simp only [List.length_drop, List.length_take]; rfl)) ?_; (with_reducible refine (arm_Through.calls k _ _ l0 a1_0 a1_1 a1_2 t104 t105 _ ?side1 ?side2 A9.out).mono ?_); (case side1 => repeat (first | exact (Kd.C_below HR0.out HB.out) | (with_reducible refine Kd.C_alloc ?_ _) | (with_reducible refine Kd.C_drewN ?_ _) | (with_reducible refine Kd.C_drew ?_))); (case side2 => exact HC0.out); rintro e w20 ⟨rfl, hb⟩; refine ⟨_, rfl, ?_⟩; have n0_ := Aside0.mk (bkB BK101 hb); have n1_ := Aside0.mk (below_step (by repeat (first | (with_reducible first | exact HB.out | apply below_alloc | apply pw_below_drewN | apply below_drew1 | refine below_set ?_ GE101.out) | exact HB.out)) hb); clear BK101; clear HB; have BK101 := n0_; have HB := n1_; clear n0_ n1_; (try clear hb); (try clear hb2); (try clear hk); (try clear hi); have hcz21_0 : w20.cell? ⟨gb101, 0, none⟩ = some (.int .i64 a1_0) := (blk_cell BK101.out 0).trans rfl; have hcz21_1 : w20.cell? ⟨gb101, 1, none⟩ = some (.int .i64 a1_1) := (blk_cell BK101.out 1).trans rfl; have hcz21_2 : w20.cell? ⟨gb101, 2, none⟩ = some (.int .i64 a1_2) := (blk_cell BK101.out 2).trans rfl; have hfz21_0 := blk_frozen BK101.out 0; have hfz21_1 := blk_frozen BK101.out 1; have hfz21_2 := blk_frozen BK101.out 2) | ((with_reducible refine gate_callee (f := 26) rfl ?_); refine goesL_ (some 27) rfl rfl Try.func26 (by kernel_rfl) rfl #[.slice A0 l0.length c0, .agg #[.int .i64 a1_0, .int .i64 a1_1, .int .i64 a1_2]] rfl (by (try simp only [List.map_toArray, List.map_cons, List.map_nil]); first | done | rfl | (simp only [List.length_drop, List.length_take]; rfl)) ?_; (with_reducible refine (dropperref03_Through.calls k _ _ l0 a1_0 a1_1 a1_2 t106 t107 _ ?side1 ?side2 A10.out).mono ?_); (case side1 => repeat (first | exact (Kd.C_below HR0.out HB.out) | (with_reducible refine Kd.C_alloc ?_ _) | (with_reducible refine Kd.C_drewN ?_ _) | (with_reducible refine Kd.C_drew ?_))); (case side2 => exact HC0.out); rintro e w22 ⟨rfl, hb⟩; refine ⟨_, rfl, ?_⟩; have n0_ := Aside0.mk (bkB BK101 hb); have n1_ := Aside0.mk (below_step (by repeat (first | (with_reducible first | exact HB.out | apply below_alloc | apply pw_below_drewN | apply below_drew1 | refine below_set ?_ GE101.out) | exact HB.out)) hb); clear BK101; clear HB; have BK101 := n0_; have HB := n1_; clear n0_ n1_; (try clear hb); (try clear hb2); (try clear hk); (try clear hi); have hcz23_0 : w22.cell? ⟨gb101, 0, none⟩ = some (.int .i64 a1_0) := (blk_cell BK101.out 0).trans rfl; have hcz23_1 : w22.cell? ⟨gb101, 1, none⟩ = some (.int .i64 a1_1) := (blk_cell BK101.out 1).trans rfl; have hcz23_2 : w22.cell? ⟨gb101, 2, none⟩ = some (.int .i64 a1_2) := (blk_cell BK101.out 2).trans rfl; have hfz23_0 := blk_frozen BK101.out 0; have hfz23_1 := blk_frozen BK101.out 1; have hfz23_2 := blk_frozen BK101.out 2) | ((with_reducible refine gate_callee (f := 33) rfl ?_); refine goesL_ (some 33) rfl rfl Try.func33 (by kernel_rfl) rfl #[.agg #[.int .i64 a1_0, .int .i64 a1_1, .int .i64 a1_2], .int .i64 a2] rfl (by (try simp only [List.map_toArray, List.map_cons, List.map_nil]); first | done | rfl | (simp only [List.length_drop, List.length_take]; rfl)) ?_; (with_reducible refine (arm_Where.calls k a1_0 a1_1 a1_2 a2 t108 t109 t110 _ A11.out).mono ?_); rintro e w24 ⟨rfl, hb⟩; refine ⟨_, rfl, ?_⟩; have n0_ := Aside0.mk (bkB BK101 hb); have n1_ := Aside0.mk (below_step (by repeat (first | (with_reducible first | exact HB.out | apply below_alloc | apply pw_below_drewN | apply below_drew1 | refine below_set ?_ GE101.out) | exact HB.out)) hb); clear BK101; clear HB; have BK101 := n0_; have HB := n1_; clear n0_ n1_; (try clear hb); (try clear hb2); (try clear hk); (try clear hi)) | ((with_reducible refine gate_dst (N := 11) rfl ?_); refine box_event ?hg (N := 11) ?hd (cs := #[.int .i64 0, .int .i64 0]) (t := 24) ?hr ?_; (case hd => rfl); (case hg => rfl); (case hr => first | (go_simp; done) | (go_simp; rfl)); intro gb111 hg w25 hbox hb; have n0_ := Aside0.mk (bkB BK101 hb); have n1_ := Aside0.mk (below_step (by repeat (first | (with_reducible first | exact HB.out | apply below_alloc | apply pw_below_drewN | apply below_drew1 | refine below_set ?_ GE101.out) | exact HB.out)) hb); have n2_ := Aside0.mk (hbox); have n3_ := Aside0.mk ((by rw [hg]; exact (below_size (by repeat (first | (with_reducible first | exact HB.out | apply below_alloc | apply pw_below_drewN | apply below_drew1 | refine below_set ?_ GE101.out) | exact HB.out))) : w.heap.size ≤ gb111)); have n4_ := Aside0.mk ((by rw [hg]; exact (below_size (by repeat (first | (with_reducible first | exact HB.out | apply below_alloc | apply pw_below_drewN | apply below_drew1 | refine below_set ?_ GE101.out) | exact HB.out))) : w.heap.size ≤ gb111)); have n5_ := Aside0.mk ((bkL BK101 hg : gb101 ≠ gb111)); have n6_ := Aside0.mk ((bkG BK101 hg : gb111 ≠ gb101)); clear BK101; clear HB; have BK101 := n0_; have HB := n1_; have BK111 := n2_; have GW111 := n3_; have GE111 := n4_; have NB101_111 := n5_; have NB111_101 := n6_; clear n0_ n1_ n2_ n3_ n4_ n5_ n6_; clear hb hbox hg; have hnb26 := NB111_101.out; have hnc26 := NB101_111.out; have hcz27_0 : w25.cell? ⟨gb111, 0, none⟩ = some (.int .i64 0) := (blk_cell BK111.out 0).trans rfl; have hcz27_1 : w25.cell? ⟨gb111, 1, none⟩ = some (.int .i64 0) := (blk_cell BK111.out 1).trans rfl; have hfz27_0 := blk_frozen BK111.out 0; have hfz27_1 := blk_frozen BK111.out 1; have hcz28_0 : w25.cell? ⟨gb101, 0, none⟩ = some (.int .i64 a1_0) := (blk_cell BK101.out 0).trans rfl; have hcz28_1 : w25.cell? ⟨gb101, 1, none⟩ = some (.int .i64 a1_1) := (blk_cell BK101.out 1).trans rfl; have hcz28_2 : w25.cell? ⟨gb101, 2, none⟩ = some (.int .i64 a1_2) := (blk_cell BK101.out 2).trans rfl; have hfz28_0 := blk_frozen BK101.out 0; have hfz28_1 := blk_frozen BK101.out 1; have hfz28_2 := blk_frozen BK101.out 2) | ((with_reducible refine gate_callee (f := 34) rfl ?_); refine goesL_ (some 39) rfl rfl Try.func34 (by kernel_rfl) rfl #[.agg #[.int .i64 a1_0, .int .i64 a1_1, .int .i64 a1_2], .int .i64 a2] rfl (by (try simp only [List.map_toArray, List.map_cons, List.map_nil]); first | done | rfl | (simp only [List.length_drop, List.length_take]; rfl)) ?_; (with_reducible refine (dropperref03_Where.calls k a1_0 a1_1 a1_2 a2 t112 t113 t114 _ A12.out).mono ?_); rintro e w29 ⟨rfl, hb⟩; refine ⟨_, rfl, ?_⟩; have n0_ := Aside0.mk (blk_below (g := gb101) (o := .cells #[.int .i64 a1_0, .int .i64 a1_1, .int .i64 a1_2] 41 (0, 0)) (bkF2 BK101 NB101_111) hb); have n1_ := Aside0.mk (blk_below (g := gb111) (o := .cells #[.int .i64 t108, .int .i64 t109] 24 (0, 0)) (by (with_reducible repeat (first | refine blk_drewN ?_ _ | refine blk_drew ?_ | refine blk_alloc ?_ _)); refine blk_put (cs := #[.int .i64 t108, .int .i64 0]) ?_ 1 _ rfl; (with_reducible repeat (first | refine blk_drewN ?_ _ | refine blk_drew ?_ | refine blk_alloc ?_ _)); refine blk_put (cs := #[.int .i64 0, .int .i64 0]) ?_ 0 _ rfl; (with_reducible repeat (first | refine blk_drewN ?_ _ | refine blk_drew ?_ | refine blk_alloc ?_ _)); exact BK111.out) hb); have n2_ := Aside0.mk (below_step (by repeat (first | (with_reducible first | exact HB.out | apply below_alloc | apply pw_below_drewN | apply below_drew1 | refine below_set ?_ GE101.out | refine below_set ?_ GE111.out) | exact HB.out)) hb); clear BK101; clear BK111; clear HB; have BK101 := n0_; have BK111 := n1_; have HB := n2_; clear n0_ n1_ n2_; (try clear hb); (try clear hb2); (try clear hk); (try clear hi)) | ((with_reducible refine gate_dst (N := 13) rfl ?_); refine box_event ?hg (N := 13) ?hd (cs := #[.int .i64 0, .int .i64 0]) (t := 24) ?hr ?_; (case hd => rfl); (case hg => rfl); (case hr => first | (go_simp; done) | (go_simp; rfl)); intro gb115 hg w30 hbox hb; have n0_ := Aside0.mk (bkB BK101 hb); have n1_ := Aside0.mk (bkB BK111 hb); have n2_ := Aside0.mk (below_step (by repeat (first | (with_reducible first | exact HB.out | apply below_alloc | apply pw_below_drewN | apply below_drew1 | refine below_set ?_ GE101.out | refine below_set ?_ GE111.out) | exact HB.out)) hb); have n3_ := Aside0.mk (hbox); have n4_ := Aside0.mk ((by rw [hg]; exact (below_size (by repeat (first | (with_reducible first | exact HB.out | apply below_alloc | apply pw_below_drewN | apply below_drew1 | refine below_set ?_ GE101.out | refine below_set ?_ GE111.out) | exact HB.out))) : w.heap.size ≤ gb115)); have n5_ := Aside0.mk ((by rw [hg]; exact (below_size (by repeat (first | (with_reducible first | exact HB.out | apply below_alloc | apply pw_below_drewN | apply below_drew1 | refine below_set ?_ GE101.out | refine below_set ?_ GE111.out) | exact HB.out))) : w.heap.size ≤ gb115)); have n6_ := Aside0.mk ((bkL BK101 hg : gb101 ≠ gb115)); have n7_ := Aside0.mk ((bkG BK101 hg : gb115 ≠ gb101)); have n8_ := Aside0.mk ((bkL BK111 hg : gb111 ≠ gb115)); have n9_ := Aside0.mk ((bkG BK111 hg : gb115 ≠ gb111)); clear BK101; clear BK111; clear HB; have BK101 := n0_; have BK111 := n1_; have HB := n2_; have BK115 := n3_; have GW115 := n4_; have GE115 := n5_; have NB101_115 := n6_; have NB115_101 := n7_; have NB111_115 := n8_; have NB115_111 := n9_; clear n0_ n1_ n2_ n3_ n4_ n5_ n6_ n7_ n8_ n9_; clear hb hbox hg; have hnb31 := NB115_101.out; have hnc31 := NB101_115.out; have hnb32 := NB115_111.out; have hnc32 := NB111_115.out; have hcz33_0 : w30.cell? ⟨gb115, 0, none⟩ = some (.int .i64 0) := (blk_cell BK115.out 0).trans rfl; have hcz33_1 : w30.cell? ⟨gb115, 1, none⟩ = some (.int .i64 0) := (blk_cell BK115.out 1).trans rfl; have hfz33_0 := blk_frozen BK115.out 0; have hfz33_1 := blk_frozen BK115.out 1; have hcz34_0 : w30.cell? ⟨gb111, 0, none⟩ = some (.int .i64 t108) := (blk_cell BK111.out 0).trans rfl; have hcz34_1 : w30.cell? ⟨gb111, 1, none⟩ = some (.int .i64 t109) := (blk_cell BK111.out 1).trans rfl; have hfz34_0 := blk_frozen BK111.out 0; have hfz34_1 := blk_frozen BK111.out 1) | (go_at_call 14; (with_reducible refine (dropperlaw03_First.calls k  t116 _ A17.out).mono ?_); rintro e w35 ⟨rfl, hb⟩; have n0_ := Aside0.mk (blk_below (g := gb101) (o := .cells #[.int .i64 a1_0, .int .i64 a1_1, .int .i64 a1_2] 41 (0, 0)) (bkF2 BK101 NB101_115) hb); have n1_ := Aside0.mk (blk_below (g := gb111) (o := .cells #[.int .i64 t108, .int .i64 t109] 24 (0, 0)) (bkF2 BK111 NB111_115) hb); have n2_ := Aside0.mk (blk_below (g := gb115) (o := .cells #[.int .i64 t112, .int .i64 t113] 24 (0, 0)) (by (with_reducible repeat (first | refine blk_drewN ?_ _ | refine blk_drew ?_ | refine blk_alloc ?_ _)); refine blk_put (cs := #[.int .i64 t112, .int .i64 0]) ?_ 1 _ rfl; (with_reducible repeat (first | refine blk_drewN ?_ _ | refine blk_drew ?_ | refine blk_alloc ?_ _)); refine blk_put (cs := #[.int .i64 0, .int .i64 0]) ?_ 0 _ rfl; (with_reducible repeat (first | refine blk_drewN ?_ _ | refine blk_drew ?_ | refine blk_alloc ?_ _)); exact BK115.out) hb); have n3_ := Aside0.mk (below_step (by repeat (first | (with_reducible first | exact HB.out | apply below_alloc | apply pw_below_drewN | apply below_drew1 | refine below_set ?_ GE101.out | refine below_set ?_ GE111.out | refine below_set ?_ GE115.out) | exact HB.out)) hb); clear BK101; clear BK111; clear BK115; clear HB; have BK101 := n0_; have BK111 := n1_; have BK115 := n2_; have HB := n3_; clear n0_ n1_ n2_ n3_; (try clear hb); (try clear hb2); (try clear hk); (try clear hi)))
  go_ret
  exact ⟨by first | rfl | (simp [errW_none, errW_some] <;> rfl) | (simp [*, errW_none, errW_some] <;> rfl), by repeat (first | (with_reducible first | exact HB.out | apply below_alloc | apply pw_below_drewN | apply below_drew1 | refine below_set ?_ GE101.out | refine below_set ?_ GE111.out | refine below_set ?_ GE115.out) | exact HB.out)⟩
end Go.Proofs.Ytiapmkndgalgnaa.G
