-- Written by this session's driver (wip/tools/printmore.py) over the kit's print, with hand-written parts.
import Derived.Test.YtiebfmenkpodeaaGBase
import Derived.Test.YtiebfmenkpodeaaGQ25
import Derived.Test.YtiebfmenkpodeaaGF16
import Derived.Test.YtiebfmenkpodeaaGF12
import Derived.Test.YtiebfmenkpodeaaGF17
import Derived.Test.YtiebfmenkpodeaaGF13
import Derived.Test.YtiebfmenkpodeaaGF14
import Derived.Test.YtiebfmenkpodeaaGF15
import Derived.Test.YtiebfmenkpodeaaGF18
namespace Go.Proofs.Ytiebfmenkpodeaa.G
open Go.RowKit Go.Proofs.YtiebfmenkpodeaaW.PrintWords Go.Proofs.YtiebfmenkpodeaaW.PrintLast Go.Proofs.YtiebfmenkpodeaaW.PrintMore
attribute [local go_sem] max2_int min2_int max_two min_two max_three min_three max_four min_four   -- for this text's walks alone
set_option linter.unusedVariables false
set_option linter.unusedSimpArgs false

attribute [local go_sem high] eqA25
/-! ### dropperlaw04_PullStacks: function 3 -/
def dropperlaw04_PullStacks.f (k : Nat) (a0_0 : Int) (a0_1 : Int) (a0_2 : Int) (a0_3 : Int) (a1 : Int) : Option (Bool) := (pull_Height.f k a0_0 a0_1 a0_2 a0_3 a1).bind fun bt102 => ((dropperref04_Height.f k a0_0 a0_1 a0_2 a0_3 a1).bind fun bt106 => ((pull_Free.f k a0_0 a0_1 a0_2 a0_3).bind fun bt110 => ((dropperref04_Free.f k a0_0 a0_1 a0_2 a0_3).bind fun bt113 => ((pull_ValidStack.f a0_0 a0_1 a0_2 a0_3).bind fun t116 => ((dropperref04_ValidStack.f a0_0 a0_1 a0_2 a0_3).bind fun t117 => (if (t116 == t117) = true then (if (bt102.1 == bt106.1 && (bt102.2.1 == bt106.2.1)) = true then (if bt102.2.2 = bt106.2.2 then (if bt110.1 = bt113.1 then (if bt110.2.1 = bt113.2.1 then (if bt110.2.2 = bt113.2.2 then ((dropperlaw04_Awake.f k).bind fun t118 => (some t118)) else (some false)) else (some false)) else (some false)) else (some false)) else (some false)) else (some false)))))))
theorem dropperlaw04_PullStacks.mono : ∀ a0 a1 a2 a3 a4 k, LeO (dropperlaw04_PullStacks.f k a0 a1 a2 a3 a4) (dropperlaw04_PullStacks.f (k + 1) a0 a1 a2 a3 a4) := by
  intro a0 a1 a2 a3 a4 k
  unfold dropperlaw04_PullStacks.f
  repeat' first
      | (with_reducible exact dropperlaw04_Awake.mono _)
      | (with_reducible exact dropperref04_Free.mono _ _ _ _ _)
      | (with_reducible exact dropperref04_Height.mono _ _ _ _ _ _)
      | (with_reducible exact pull_Free.mono _ _ _ _ _)
      | (with_reducible exact pull_Height.mono _ _ _ _ _ _)
      | (with_reducible exact LeO.refl _)
      | (with_reducible exact LeO.none _)
      | (with_reducible refine LeO.ite ?_ ?_)
      | (with_reducible refine LeO.bind ?_ (fun _ => ?_))
      | exact dropperlaw04_Awake.mono _
      | exact dropperref04_Free.mono _ _ _ _ _
      | exact dropperref04_Height.mono _ _ _ _ _ _
      | exact pull_Free.mono _ _ _ _ _
      | exact pull_Height.mono _ _ _ _ _ _
      | exact LeO.none _
      | refine LeO.ite ?_ ?_
      | refine LeO.bind ?_ (fun _ => ?_)
def dropperlaw04_PullStacks.T5 : Bool × List (List Nat × List Nat) := (true, [([], []), ([0], [0]), ([], []), ([2, 1], [2]), ([1, 3], [1, 3]), ([4, 3], [4]), ([5], [5]), ([5], [5]), ([6, 7, 5], [5, 6, 7]), ([5, 8], [5, 8]), ([9, 5], [9]), ([10], [10]), ([10], [10]), ([11, 12, 10], [10, 11, 12]), ([10, 13], [10, 13]), ([14, 10], [14]), ([15], [15]), ([15], [15]), ([16, 17, 15], [15, 16, 17]), ([15, 18], [15, 18]), ([19, 15], [19]), ([20], [20]), ([20], [20]), ([21, 22, 20], [20, 21, 22]), ([20, 23], [20, 23]), ([24, 20], [24]), ([25], [25]), ([25], [25]), ([26, 27, 25], [25, 26, 27]), ([25, 28], [25, 28]), ([29, 25], [29]), ([30, 30], [30]), ([30, 31], [30, 31]), ([32, 31, 0, 1, 2, 3, 4, 5, 6, 7, 8, 9, 10, 11, 12, 13, 14, 15, 16, 17, 18, 19, 20, 21, 22, 23, 24, 25, 26, 27, 28, 29, 30, 31, 32], [32])])
def dropperlaw04_PullStacks.B5 : List Nat := [0, 1, 0, 7, 15, 31, 63, 63, 255, 511, 1023, 2047, 2047, 8191, 16383, 32767, 65535, 65535, 262143, 524287, 1048575, 2097151, 2097151, 8388607, 16777215, 33554431, 67108863, 67108863, 268435455, 536870911, 1073741823, 2147483647, 4294967295, 8589934591]
theorem dropperlaw04_PullStacks.tab5 : rtab .any (opsOf Try.f3 5) = dropperlaw04_PullStacks.T5 := by kernel_rfl
theorem dropperlaw04_PullStacks.bits5 : waitsOk dropperlaw04_PullStacks.T5.2 dropperlaw04_PullStacks.B5 = true := by kernel_rfl
set_option maxHeartbeats 8000000 in
set_option maxRecDepth 100000 in
theorem dropperlaw04_PullStacks.calls (k : Nat) (a0_0 : Int) (a0_1 : Int) (a0_2 : Int) (a0_3 : Int) (a1 : Int) (r : Bool) (w : World) (h : dropperlaw04_PullStacks.f k a0_0 a0_1 a0_2 a0_3 a1 = some r) (hT : r = true) :
    Calls Try.prog 3 #[.agg #[.int .i64 a0_0, .int .i64 a0_1, .int .i64 a0_2, .int .i64 a0_3], .int .i64 a1] w fun e w' => e = .returned (.bool r) ∧ Below w.heap.size w w' := by
  have hu23 := Try.underlying23
  have hu25 := Try.underlying25
  have HB := Aside0.mk (Below.refl w.heap.size w)
  have H : ((pull_Height.f k a0_0 a0_1 a0_2 a0_3 a1).bind fun bt102 => ((dropperref04_Height.f k a0_0 a0_1 a0_2 a0_3 a1).bind fun bt106 => ((pull_Free.f k a0_0 a0_1 a0_2 a0_3).bind fun bt110 => ((dropperref04_Free.f k a0_0 a0_1 a0_2 a0_3).bind fun bt113 => ((pull_ValidStack.f a0_0 a0_1 a0_2 a0_3).bind fun t116 => ((dropperref04_ValidStack.f a0_0 a0_1 a0_2 a0_3).bind fun t117 => (if (t116 == t117) = true then (if (bt102.1 == bt106.1 && (bt102.2.1 == bt106.2.1)) = true then (if bt102.2.2 = bt106.2.2 then (if bt110.1 = bt113.1 then (if bt110.2.1 = bt113.2.1 then (if bt110.2.2 = bt113.2.2 then ((dropperlaw04_Awake.f k).bind fun t118 => (some t118)) else (some false)) else (some false)) else (some false)) else (some false)) else (some false)) else (some false)))))))) = some r := h
  clear h
  replace H := Option.bind_eq_some_iff.mp H
  obtain ⟨⟨t102, t103, t104⟩, A30, H⟩ := H
  replace H : ((dropperref04_Height.f k a0_0 a0_1 a0_2 a0_3 a1).bind fun bt106 => ((pull_Free.f k a0_0 a0_1 a0_2 a0_3).bind fun bt110 => ((dropperref04_Free.f k a0_0 a0_1 a0_2 a0_3).bind fun bt113 => ((pull_ValidStack.f a0_0 a0_1 a0_2 a0_3).bind fun t116 => ((dropperref04_ValidStack.f a0_0 a0_1 a0_2 a0_3).bind fun t117 => (if (t116 == t117) = true then (if (t102 == bt106.1 && (t103 == bt106.2.1)) = true then (if t104 = bt106.2.2 then (if bt110.1 = bt113.1 then (if bt110.2.1 = bt113.2.1 then (if bt110.2.2 = bt113.2.2 then ((dropperlaw04_Awake.f k).bind fun t118 => (some t118)) else (some false)) else (some false)) else (some false)) else (some false)) else (some false)) else (some false))))))) = some r := H
  have A3 := Aside0.mk A30
  clear A30
  replace H := Option.bind_eq_some_iff.mp H
  obtain ⟨⟨t106, t107, t108⟩, A40, H⟩ := H
  replace H : ((pull_Free.f k a0_0 a0_1 a0_2 a0_3).bind fun bt110 => ((dropperref04_Free.f k a0_0 a0_1 a0_2 a0_3).bind fun bt113 => ((pull_ValidStack.f a0_0 a0_1 a0_2 a0_3).bind fun t116 => ((dropperref04_ValidStack.f a0_0 a0_1 a0_2 a0_3).bind fun t117 => (if (t116 == t117) = true then (if (t102 == t106 && (t103 == t107)) = true then (if t104 = t108 then (if bt110.1 = bt113.1 then (if bt110.2.1 = bt113.2.1 then (if bt110.2.2 = bt113.2.2 then ((dropperlaw04_Awake.f k).bind fun t118 => (some t118)) else (some false)) else (some false)) else (some false)) else (some false)) else (some false)) else (some false)))))) = some r := H
  have A4 := Aside0.mk A40
  clear A40
  replace H := Option.bind_eq_some_iff.mp H
  obtain ⟨⟨t110, t111, t112⟩, A50, H⟩ := H
  replace H : ((dropperref04_Free.f k a0_0 a0_1 a0_2 a0_3).bind fun bt113 => ((pull_ValidStack.f a0_0 a0_1 a0_2 a0_3).bind fun t116 => ((dropperref04_ValidStack.f a0_0 a0_1 a0_2 a0_3).bind fun t117 => (if (t116 == t117) = true then (if (t102 == t106 && (t103 == t107)) = true then (if t104 = t108 then (if t110 = bt113.1 then (if t111 = bt113.2.1 then (if t112 = bt113.2.2 then ((dropperlaw04_Awake.f k).bind fun t118 => (some t118)) else (some false)) else (some false)) else (some false)) else (some false)) else (some false)) else (some false))))) = some r := H
  have A5 := Aside0.mk A50
  clear A50
  replace H := Option.bind_eq_some_iff.mp H
  obtain ⟨⟨t113, t114, t115⟩, A60, H⟩ := H
  replace H : ((pull_ValidStack.f a0_0 a0_1 a0_2 a0_3).bind fun t116 => ((dropperref04_ValidStack.f a0_0 a0_1 a0_2 a0_3).bind fun t117 => (if (t116 == t117) = true then (if (t102 == t106 && (t103 == t107)) = true then (if t104 = t108 then (if t110 = t113 then (if t111 = t114 then (if t112 = t115 then ((dropperlaw04_Awake.f k).bind fun t118 => (some t118)) else (some false)) else (some false)) else (some false)) else (some false)) else (some false)) else (some false)))) = some r := H
  have A6 := Aside0.mk A60
  clear A60
  replace H := Option.bind_eq_some_iff.mp H
  obtain ⟨t116, A70, H⟩ := H
  replace H : ((dropperref04_ValidStack.f a0_0 a0_1 a0_2 a0_3).bind fun t117 => (if (t116 == t117) = true then (if (t102 == t106 && (t103 == t107)) = true then (if t104 = t108 then (if t110 = t113 then (if t111 = t114 then (if t112 = t115 then ((dropperlaw04_Awake.f k).bind fun t118 => (some t118)) else (some false)) else (some false)) else (some false)) else (some false)) else (some false)) else (some false))) = some r := H
  have A7 := Aside0.mk A70
  clear A70
  replace H := Option.bind_eq_some_iff.mp H
  obtain ⟨t117, A80, H⟩ := H
  replace H : (if (t116 == t117) = true then (if (t102 == t106 && (t103 == t107)) = true then (if t104 = t108 then (if t110 = t113 then (if t111 = t114 then (if t112 = t115 then ((dropperlaw04_Awake.f k).bind fun t118 => (some t118)) else (some false)) else (some false)) else (some false)) else (some false)) else (some false)) else (some false)) = some r := H
  have A8 := Aside0.mk A80
  clear A80
  by_cases c9 : (t116 == t117) = true
  rotate_left
  · rw [if_neg c9] at H
    have c9b0 : (t116 == t117) = false := by simpa using c9
    (try (have c9b1 : decide (t116 = t117) = false := by simpa using c9))
    (try (have c9b2 : (t116 == t117) = false := by simpa using c9))
    (try (have c9b3 : ¬ (t116 = t117) := by simpa using c9))
    clear c9
    exact absurd (hT.symm.trans (Option.some.inj H).symm) (by decide)

  rw [if_pos c9] at H
  have c9b0 : (t116 == t117) = true := c9
  (try (have c9b1 : decide (t116 = t117) = true := by simpa using c9))
  (try (have c9b2 : (t116 == t117) = true := by simpa using c9))
  clear c9
  by_cases c10 : (t102 == t106 && (t103 == t107)) = true
  rotate_left
  · rw [if_neg c10] at H
    have c10b0 : (t102 == t106 && (t103 == t107)) = false := by simpa using c10
    (try (have c10b1 : decide (t102 = t106 && (t103 == t107)) = false := by simpa using c10))
    (try (have c10b2 : (t102 == t106 && (t103 == t107)) = false := by simpa using c10))
    (try (have c10b3 : ¬ (t102 = t106 && (t103 == t107)) := by simpa using c10))
    clear c10
    exact absurd (hT.symm.trans (Option.some.inj H).symm) (by decide)
  rw [if_pos c10] at H
  have c10b0 : (t102 == t106 && (t103 == t107)) = true := c10
  (try (have c10b1 : decide (t102 = t106 && (t103 == t107)) = true := by simpa using c10))
  (try (have c10b2 : (t102 == t106 && (t103 == t107)) = true := by simpa using c10))
  clear c10
  by_cases c11 : t104 = t108
  rotate_left
  · rw [if_neg c11] at H
    have c11b0 : (t104 == t108) = false := beq_eq_false_iff_ne.mpr c11
    have c11b1 : (t104 != t108) = true := bne_iff_ne.mpr c11
    exact absurd (hT.symm.trans (Option.some.inj H).symm) (by decide)
  rw [if_pos c11] at H
  have c11b0 : (t104 == t108) = true := beq_iff_eq.mpr c11
  have c11b1 : (t104 != t108) = false := bne_eq_false_iff_eq.mpr c11
  clear c11
  by_cases c12 : t110 = t113
  rotate_left
  · rw [if_neg c12] at H
    have c12b0 : (t110 == t113) = false := beq_eq_false_iff_ne.mpr c12
    have c12b1 : (t110 != t113) = true := bne_iff_ne.mpr c12
    exact absurd (hT.symm.trans (Option.some.inj H).symm) (by decide)
  rw [if_pos c12] at H
  have c12b0 : (t110 == t113) = true := beq_iff_eq.mpr c12
  have c12b1 : (t110 != t113) = false := bne_eq_false_iff_eq.mpr c12
  clear c12
  by_cases c13 : t111 = t114
  rotate_left
  · rw [if_neg c13] at H
    have c13b0 : (t111 == t114) = false := beq_eq_false_iff_ne.mpr c13
    have c13b1 : (t111 != t114) = true := bne_iff_ne.mpr c13
    exact absurd (hT.symm.trans (Option.some.inj H).symm) (by decide)
  rw [if_pos c13] at H
  have c13b0 : (t111 == t114) = true := beq_iff_eq.mpr c13
  have c13b1 : (t111 != t114) = false := bne_eq_false_iff_eq.mpr c13
  clear c13
  by_cases c14 : t112 = t115
  rotate_left
  · rw [if_neg c14] at H
    have c14b0 : (t112 == t115) = false := beq_eq_false_iff_ne.mpr c14
    have c14b1 : (t112 != t115) = true := bne_iff_ne.mpr c14
    exact absurd (hT.symm.trans (Option.some.inj H).symm) (by decide)
  rw [if_pos c14] at H
  have c14b0 : (t112 == t115) = true := beq_iff_eq.mpr c14
  have c14b1 : (t112 != t115) = false := bne_eq_false_iff_eq.mpr c14
  clear c14
  replace H := Option.bind_eq_some_iff.mp H
  obtain ⟨t118, A150, H⟩ := H
  replace H : (some t118) = some r := H
  have A15 := Aside0.mk A150
  clear A150
  clear hT
  obtain rfl := Option.some.inj H
  go_enter Try.func3, Try.ntmps3
  try go_wp2_with (first | ((with_reducible refine gate_dst (N := 2) rfl ?_); refine box_event ?hg (N := 2) ?hd (cs := #[.int .i64 a0_0, .int .i64 a0_1, .int .i64 a0_2, .int .i64 a0_3]) (t := 23) ?hr ?_; (case hd => rfl); (case hg => rfl); (case hr => first | (go_simp; done) | (go_simp; rfl)); intro gb101 hg w16 hbox hb; have n0_ := Aside0.mk (below_step (by repeat (first | (with_reducible first | exact HB.out | apply below_alloc | apply pw_below_drewN | apply below_drew1) | exact HB.out)) hb); have n1_ := Aside0.mk (hbox); have n2_ := Aside0.mk ((by rw [hg]; exact (below_size (by repeat (first | (with_reducible first | exact HB.out | apply below_alloc | apply pw_below_drewN | apply below_drew1) | exact HB.out))) : w.heap.size ≤ gb101)); have n3_ := Aside0.mk ((by rw [hg]; exact (below_size (by repeat (first | (with_reducible first | exact HB.out | apply below_alloc | apply pw_below_drewN | apply below_drew1) | exact HB.out))) : w.heap.size ≤ gb101)); clear HB; have HB := n0_; have BK101 := n1_; have GW101 := n2_; have GE101 := n3_; clear n0_ n1_ n2_ n3_; clear hb hbox hg; have hcz17_0 : w16.cell? ⟨gb101, 0, none⟩ = some (.int .i64 a0_0) := (blk_cell BK101.out 0).trans rfl; have hcz17_1 : w16.cell? ⟨gb101, 1, none⟩ = some (.int .i64 a0_1) := (blk_cell BK101.out 1).trans rfl; have hcz17_2 : w16.cell? ⟨gb101, 2, none⟩ = some (.int .i64 a0_2) := (blk_cell BK101.out 2).trans rfl; have hcz17_3 : w16.cell? ⟨gb101, 3, none⟩ = some (.int .i64 a0_3) := (blk_cell BK101.out 3).trans rfl; have hfz17_0 := blk_frozen BK101.out 0; have hfz17_1 := blk_frozen BK101.out 1; have hfz17_2 := blk_frozen BK101.out 2; have hfz17_3 := blk_frozen BK101.out 3) | ((with_reducible refine gate_callee (f := 12) rfl ?_); refine goesL_ (some 18) rfl rfl Try.func12 (by kernel_rfl) rfl #[.agg #[.int .i64 a0_0, .int .i64 a0_1, .int .i64 a0_2, .int .i64 a0_3], .int .i64 a1] rfl (by (try simp only [List.map_toArray, List.map_cons, List.map_nil]); first | done | rfl | (simp only [List.length_drop, List.length_take]; rfl)) ?_; (with_reducible refine (pull_Height.calls k a0_0 a0_1 a0_2 a0_3 a1 t102 t103 t104 _ A3.out).mono ?_); rintro e w18 ⟨rfl, hb⟩; refine ⟨_, rfl, ?_⟩; have n0_ := Aside0.mk (bkB BK101 hb); have n1_ := Aside0.mk (below_step (by repeat (first | (with_reducible first | exact HB.out | apply below_alloc | apply pw_below_drewN | apply below_drew1 | refine below_set ?_ GE101.out) | exact HB.out)) hb); clear BK101; clear HB; have BK101 := n0_; have HB := n1_; clear n0_ n1_; (try clear hb); (try clear hb2); (try clear hk); (try clear hi)) | ((with_reducible refine gate_dst (N := 5) rfl ?_); refine box_event ?hg (N := 5) ?hd (cs := #[.int .i64 0, .int .i64 0]) (t := 25) ?hr ?_; (case hd => rfl); (case hg => rfl); (case hr => first | (go_simp; done) | (go_simp; rfl)); intro gb105 hg w19 hbox hb; have n0_ := Aside0.mk (bkB BK101 hb); have n1_ := Aside0.mk (below_step (by repeat (first | (with_reducible first | exact HB.out | apply below_alloc | apply pw_below_drewN | apply below_drew1 | refine below_set ?_ GE101.out) | exact HB.out)) hb); have n2_ := Aside0.mk (hbox); have n3_ := Aside0.mk ((by rw [hg]; exact (below_size (by repeat (first | (with_reducible first | exact HB.out | apply below_alloc | apply pw_below_drewN | apply below_drew1 | refine below_set ?_ GE101.out) | exact HB.out))) : w.heap.size ≤ gb105)); have n4_ := Aside0.mk ((by rw [hg]; exact (below_size (by repeat (first | (with_reducible first | exact HB.out | apply below_alloc | apply pw_below_drewN | apply below_drew1 | refine below_set ?_ GE101.out) | exact HB.out))) : w.heap.size ≤ gb105)); have n5_ := Aside0.mk ((bkL BK101 hg : gb101 ≠ gb105)); have n6_ := Aside0.mk ((bkG BK101 hg : gb105 ≠ gb101)); clear BK101; clear HB; have BK101 := n0_; have HB := n1_; have BK105 := n2_; have GW105 := n3_; have GE105 := n4_; have NB101_105 := n5_; have NB105_101 := n6_; clear n0_ n1_ n2_ n3_ n4_ n5_ n6_; clear hb hbox hg; have hnb20 := NB105_101.out; have hnc20 := NB101_105.out; have hcz21_0 : w19.cell? ⟨gb105, 0, none⟩ = some (.int .i64 0) := (blk_cell BK105.out 0).trans rfl; have hcz21_1 : w19.cell? ⟨gb105, 1, none⟩ = some (.int .i64 0) := (blk_cell BK105.out 1).trans rfl; have hfz21_0 := blk_frozen BK105.out 0; have hfz21_1 := blk_frozen BK105.out 1; have hcz22_0 : w19.cell? ⟨gb101, 0, none⟩ = some (.int .i64 a0_0) := (blk_cell BK101.out 0).trans rfl; have hcz22_1 : w19.cell? ⟨gb101, 1, none⟩ = some (.int .i64 a0_1) := (blk_cell BK101.out 1).trans rfl; have hcz22_2 : w19.cell? ⟨gb101, 2, none⟩ = some (.int .i64 a0_2) := (blk_cell BK101.out 2).trans rfl; have hcz22_3 : w19.cell? ⟨gb101, 3, none⟩ = some (.int .i64 a0_3) := (blk_cell BK101.out 3).trans rfl; have hfz22_0 := blk_frozen BK101.out 0; have hfz22_1 := blk_frozen BK101.out 1; have hfz22_2 := blk_frozen BK101.out 2; have hfz22_3 := blk_frozen BK101.out 3) | ((with_reducible refine gate_callee (f := 13) rfl ?_); refine goesL_ (some 24) rfl rfl Try.func13 (by kernel_rfl) rfl #[.agg #[.int .i64 a0_0, .int .i64 a0_1, .int .i64 a0_2, .int .i64 a0_3], .int .i64 a1] rfl (by (try simp only [List.map_toArray, List.map_cons, List.map_nil]); first | done | rfl | (simp only [List.length_drop, List.length_take]; rfl)) ?_; (with_reducible refine (dropperref04_Height.calls k a0_0 a0_1 a0_2 a0_3 a1 t106 t107 t108 _ A4.out).mono ?_); rintro e w23 ⟨rfl, hb⟩; refine ⟨_, rfl, ?_⟩; have n0_ := Aside0.mk (blk_below (g := gb101) (o := .cells #[.int .i64 a0_0, .int .i64 a0_1, .int .i64 a0_2, .int .i64 a0_3] 23 (0, 0)) (bkF2 BK101 NB101_105) hb); have n1_ := Aside0.mk (blk_below (g := gb105) (o := .cells #[.int .i64 t102, .int .i64 t103] 25 (0, 0)) (by (with_reducible repeat (first | refine blk_drewN ?_ _ | refine blk_drew ?_ | refine blk_alloc ?_ _)); refine blk_put (cs := #[.int .i64 t102, .int .i64 0]) ?_ 1 _ rfl; (with_reducible repeat (first | refine blk_drewN ?_ _ | refine blk_drew ?_ | refine blk_alloc ?_ _)); refine blk_put (cs := #[.int .i64 0, .int .i64 0]) ?_ 0 _ rfl; (with_reducible repeat (first | refine blk_drewN ?_ _ | refine blk_drew ?_ | refine blk_alloc ?_ _)); exact BK105.out) hb); have n2_ := Aside0.mk (below_step (by repeat (first | (with_reducible first | exact HB.out | apply below_alloc | apply pw_below_drewN | apply below_drew1 | refine below_set ?_ GE101.out | refine below_set ?_ GE105.out) | exact HB.out)) hb); clear BK101; clear BK105; clear HB; have BK101 := n0_; have BK105 := n1_; have HB := n2_; clear n0_ n1_ n2_; (try clear hb); (try clear hb2); (try clear hk); (try clear hi)) | ((with_reducible refine gate_dst (N := 7) rfl ?_); refine box_event ?hg (N := 7) ?hd (cs := #[.int .i64 0, .int .i64 0]) (t := 25) ?hr ?_; (case hd => rfl); (case hg => rfl); (case hr => first | (go_simp; done) | (go_simp; rfl)); intro gb109 hg w24 hbox hb; have n0_ := Aside0.mk (bkB BK101 hb); have n1_ := Aside0.mk (bkB BK105 hb); have n2_ := Aside0.mk (below_step (by repeat (first | (with_reducible first | exact HB.out | apply below_alloc | apply pw_below_drewN | apply below_drew1 | refine below_set ?_ GE101.out | refine below_set ?_ GE105.out) | exact HB.out)) hb); have n3_ := Aside0.mk (hbox); have n4_ := Aside0.mk ((by rw [hg]; exact (below_size (by repeat (first | (with_reducible first | exact HB.out | apply below_alloc | apply pw_below_drewN | apply below_drew1 | refine below_set ?_ GE101.out | refine below_set ?_ GE105.out) | exact HB.out))) : w.heap.size ≤ gb109)); have n5_ := Aside0.mk ((by rw [hg]; exact (below_size (by repeat (first | (with_reducible first | exact HB.out | apply below_alloc | apply pw_below_drewN | apply below_drew1 | refine below_set ?_ GE101.out | refine below_set ?_ GE105.out) | exact HB.out))) : w.heap.size ≤ gb109)); have n6_ := Aside0.mk ((bkL BK101 hg : gb101 ≠ gb109)); have n7_ := Aside0.mk ((bkG BK101 hg : gb109 ≠ gb101)); have n8_ := Aside0.mk ((bkL BK105 hg : gb105 ≠ gb109)); have n9_ := Aside0.mk ((bkG BK105 hg : gb109 ≠ gb105)); clear BK101; clear BK105; clear HB; have BK101 := n0_; have BK105 := n1_; have HB := n2_; have BK109 := n3_; have GW109 := n4_; have GE109 := n5_; have NB101_109 := n6_; have NB109_101 := n7_; have NB105_109 := n8_; have NB109_105 := n9_; clear n0_ n1_ n2_ n3_ n4_ n5_ n6_ n7_ n8_ n9_; clear hb hbox hg; have hnb25 := NB109_101.out; have hnc25 := NB101_109.out; have hnb26 := NB109_105.out; have hnc26 := NB105_109.out; have hcz27_0 : w24.cell? ⟨gb109, 0, none⟩ = some (.int .i64 0) := (blk_cell BK109.out 0).trans rfl; have hcz27_1 : w24.cell? ⟨gb109, 1, none⟩ = some (.int .i64 0) := (blk_cell BK109.out 1).trans rfl; have hfz27_0 := blk_frozen BK109.out 0; have hfz27_1 := blk_frozen BK109.out 1; have hcz28_0 : w24.cell? ⟨gb101, 0, none⟩ = some (.int .i64 a0_0) := (blk_cell BK101.out 0).trans rfl; have hcz28_1 : w24.cell? ⟨gb101, 1, none⟩ = some (.int .i64 a0_1) := (blk_cell BK101.out 1).trans rfl; have hcz28_2 : w24.cell? ⟨gb101, 2, none⟩ = some (.int .i64 a0_2) := (blk_cell BK101.out 2).trans rfl; have hcz28_3 : w24.cell? ⟨gb101, 3, none⟩ = some (.int .i64 a0_3) := (blk_cell BK101.out 3).trans rfl; have hfz28_0 := blk_frozen BK101.out 0; have hfz28_1 := blk_frozen BK101.out 1; have hfz28_2 := blk_frozen BK101.out 2; have hfz28_3 := blk_frozen BK101.out 3) | ((with_reducible refine gate_callee (f := 14) rfl ?_); refine goesL_ (some 29) rfl rfl Try.func14 (by kernel_rfl) rfl #[.agg #[.int .i64 a0_0, .int .i64 a0_1, .int .i64 a0_2, .int .i64 a0_3]] rfl (by (try simp only [List.map_toArray, List.map_cons, List.map_nil]); first | done | rfl | (simp only [List.length_drop, List.length_take]; rfl)) ?_; (with_reducible refine (pull_Free.calls k a0_0 a0_1 a0_2 a0_3 t110 t111 t112 _ A5.out).mono ?_); rintro e w29 ⟨rfl, hb⟩; refine ⟨_, rfl, ?_⟩; have n0_ := Aside0.mk (blk_below (g := gb101) (o := .cells #[.int .i64 a0_0, .int .i64 a0_1, .int .i64 a0_2, .int .i64 a0_3] 23 (0, 0)) (bkF2 BK101 NB101_109) hb); have n1_ := Aside0.mk (blk_below (g := gb105) (o := .cells #[.int .i64 t102, .int .i64 t103] 25 (0, 0)) (bkF2 BK105 NB105_109) hb); have n2_ := Aside0.mk (blk_below (g := gb109) (o := .cells #[.int .i64 t106, .int .i64 t107] 25 (0, 0)) (by (with_reducible repeat (first | refine blk_drewN ?_ _ | refine blk_drew ?_ | refine blk_alloc ?_ _)); refine blk_put (cs := #[.int .i64 t106, .int .i64 0]) ?_ 1 _ rfl; (with_reducible repeat (first | refine blk_drewN ?_ _ | refine blk_drew ?_ | refine blk_alloc ?_ _)); refine blk_put (cs := #[.int .i64 0, .int .i64 0]) ?_ 0 _ rfl; (with_reducible repeat (first | refine blk_drewN ?_ _ | refine blk_drew ?_ | refine blk_alloc ?_ _)); exact BK109.out) hb); have n3_ := Aside0.mk (below_step (by repeat (first | (with_reducible first | exact HB.out | apply below_alloc | apply pw_below_drewN | apply below_drew1 | refine below_set ?_ GE101.out | refine below_set ?_ GE105.out | refine below_set ?_ GE109.out) | exact HB.out)) hb); clear BK101; clear BK105; clear BK109; clear HB; have BK101 := n0_; have BK105 := n1_; have BK109 := n2_; have HB := n3_; clear n0_ n1_ n2_ n3_; (try clear hb); (try clear hb2); (try clear hk); (try clear hi); have hcz30_0 : w29.cell? ⟨gb101, 0, none⟩ = some (.int .i64 a0_0) := (blk_cell BK101.out 0).trans rfl; have hcz30_1 : w29.cell? ⟨gb101, 1, none⟩ = some (.int .i64 a0_1) := (blk_cell BK101.out 1).trans rfl; have hcz30_2 : w29.cell? ⟨gb101, 2, none⟩ = some (.int .i64 a0_2) := (blk_cell BK101.out 2).trans rfl; have hcz30_3 : w29.cell? ⟨gb101, 3, none⟩ = some (.int .i64 a0_3) := (blk_cell BK101.out 3).trans rfl; have hfz30_0 := blk_frozen BK101.out 0; have hfz30_1 := blk_frozen BK101.out 1; have hfz30_2 := blk_frozen BK101.out 2; have hfz30_3 := blk_frozen BK101.out 3) | ((with_reducible refine gate_callee (f := 15) rfl ?_); refine goesL_ (some 35) rfl rfl Try.func15 (by kernel_rfl) rfl #[.agg #[.int .i64 a0_0, .int .i64 a0_1, .int .i64 a0_2, .int .i64 a0_3]] rfl (by (try simp only [List.map_toArray, List.map_cons, List.map_nil]); first | done | rfl | (simp only [List.length_drop, List.length_take]; rfl)) ?_; (with_reducible refine (dropperref04_Free.calls k a0_0 a0_1 a0_2 a0_3 t113 t114 t115 _ A6.out).mono ?_); rintro e w31 ⟨rfl, hb⟩; refine ⟨_, rfl, ?_⟩; have n0_ := Aside0.mk (bkB BK101 hb); have n1_ := Aside0.mk (bkB BK105 hb); have n2_ := Aside0.mk (bkB BK109 hb); have n3_ := Aside0.mk (below_step (by repeat (first | (with_reducible first | exact HB.out | apply below_alloc | apply pw_below_drewN | apply below_drew1 | refine below_set ?_ GE101.out | refine below_set ?_ GE105.out | refine below_set ?_ GE109.out) | exact HB.out)) hb); clear BK101; clear BK105; clear BK109; clear HB; have BK101 := n0_; have BK105 := n1_; have BK109 := n2_; have HB := n3_; clear n0_ n1_ n2_ n3_; (try clear hb); (try clear hb2); (try clear hk); (try clear hi)))
  have n0_ := Aside0.mk (blk_drew BK101.out)
  have n1_ := Aside0.mk (blk_drew BK105.out)
  have n2_ := Aside0.mk (blk_drew BK109.out)
  have n3_ := Aside0.mk (below_drew1 HB.out)
  clear BK101
  clear BK105
  clear BK109
  clear HB
  have BK101 := n0_
  have BK105 := n1_
  have BK109 := n2_
  have HB := n3_
  clear n0_ n1_ n2_ n3_
  refine start_ (n := 34) (S := fun w' => w'.cell? ⟨gb101, 0, none⟩ = some (.int .i64 a0_0) ∧ w'.cell? ⟨gb101, 1, none⟩ = some (.int .i64 a0_1) ∧ w'.cell? ⟨gb101, 2, none⟩ = some (.int .i64 a0_2) ∧ w'.cell? ⟨gb101, 3, none⟩ = some (.int .i64 a0_3) ∧ w'.cell? ⟨gb105, 0, none⟩ = some (.int .i64 t102) ∧ w'.cell? ⟨gb105, 1, none⟩ = some (.int .i64 t103) ∧ w'.cell? ⟨gb109, 0, none⟩ = some (.int .i64 t106) ∧ w'.cell? ⟨gb109, 1, none⟩ = some (.int .i64 t107)) (ds := []) (mkB 34 0) (by kernel_rfl) rfl rfl ⟨(blk_cell BK101.out 0).trans rfl, (blk_cell BK101.out 1).trans rfl, (blk_cell BK101.out 2).trans rfl, (blk_cell BK101.out 3).trans rfl, (blk_cell BK105.out 0).trans rfl, (blk_cell BK105.out 1).trans rfl, (blk_cell BK109.out 0).trans rfl, (blk_cell BK109.out 1).trans rfl⟩ (fun hHeld => ?_); refine with_tabW dropperlaw04_PullStacks.tab5 dropperlaw04_PullStacks.bits5 (fun HT_ HW_ => ?_)
  generalize w31.drew = w32 at BK101 BK105 BK109 HB hHeld ⊢
  refine take_ (i := 0) (N := some 39) (v := ?_) (a' := ?_) (mkB 34 1) rfl rfl (take_ofW HT_.out HW_.out (by kernel_rfl)) (fun _ _ _ h => h) (Or.inl ⟨by rfl, ?_⟩) hHeld ?_ ?_
  rotate_left
  · rintro w' ⟨s0, s1, s2, s3, s4, s5, s6, s7⟩
    go_simp
    with_reducible rfl
  rotate_left
  · simp only [Act.put, List.setIfInBounds_toArray, List.set_cons_zero, List.set_cons_succ, i64_w, i32_w]
    rfl
  refine take_ (i := 2) (N := some 41) (v := ?_) (a' := ?_) (mkB 34 5) rfl rfl (take_ofW HT_.out HW_.out (by kernel_rfl)) (fun _ _ _ h => h) (Or.inl ⟨by rfl, ?_⟩) hHeld ?_ ?_
  rotate_left
  · rintro w' ⟨s0, s1, s2, s3, s4, s5, s6, s7⟩
    go_simp
    with_reducible rfl
  rotate_left
  · simp only [Act.put, List.setIfInBounds_toArray, List.set_cons_zero, List.set_cons_succ, i64_w, i32_w]
    rfl
  refine one_ (i := 1) (N := some 40) (mkB 34 7) rfl rfl (one_of HT_.out (by kernel_rfl)) (by decide) (fun K hK => ?_)
  refine goes_ Try.func16 (by kernel_rfl) rfl #[.agg #[.int .i64 a0_0, .int .i64 a0_1, .int .i64 a0_2, .int .i64 a0_3]] (by rfl) rfl rfl (by (try simp only [List.map_toArray, List.map_cons, List.map_nil]); first | done | rfl | (simp only [List.length_drop, List.length_take]; rfl)) ?_
  with_reducible refine (pull_ValidStack.calls a0_0 a0_1 a0_2 a0_3 t116 _ A7.out).mono ?_
  rintro e w33 ⟨rfl, hb⟩
  refine ⟨_, rfl, ?_⟩
  have n0_ := Aside0.mk (bkB BK101 hb)
  have n1_ := Aside0.mk (bkB BK105 hb)
  have n2_ := Aside0.mk (bkB BK109 hb)
  have n3_ := Aside0.mk (below_step (by repeat (first | (with_reducible first | exact HB.out | apply below_alloc | apply pw_below_drewN | apply below_drew1 | refine below_set ?_ GE101.out | refine below_set ?_ GE105.out | refine below_set ?_ GE109.out) | exact HB.out)) hb)
  clear BK101
  clear BK105
  clear BK109
  clear HB
  have BK101 := n0_
  have BK105 := n1_
  have BK109 := n2_
  have HB := n3_
  clear n0_ n1_ n2_ n3_
  (try clear hb)
  (try clear hb2)
  (try clear hk)
  (try clear hi)
  refine hK.out _ _ ⟨(blk_cell BK101.out 0).trans rfl, (blk_cell BK101.out 1).trans rfl, (blk_cell BK101.out 2).trans rfl, (blk_cell BK101.out 3).trans rfl, (blk_cell BK105.out 0).trans rfl, (blk_cell BK105.out 1).trans rfl, (blk_cell BK109.out 0).trans rfl, (blk_cell BK109.out 1).trans rfl⟩ (fun hHeld => ?_)
  clear hK K
  refine norm_ (a' := ?_) ?_ ?_
  rotate_left
  · show Act.put _ (some 40) _ = _
    simp only [Act.put, List.setIfInBounds_toArray, List.set_cons_zero, List.set_cons_succ, i64_w, i32_w]
    rfl
  refine one_ (i := 3) (N := some 42) (mkB 34 15) rfl rfl (one_of HT_.out (by kernel_rfl)) (by decide) (fun K hK => ?_)
  refine goes_ Try.func17 (by kernel_rfl) rfl #[.agg #[.int .i64 a0_0, .int .i64 a0_1, .int .i64 a0_2, .int .i64 a0_3]] (by rfl) rfl rfl (by (try simp only [List.map_toArray, List.map_cons, List.map_nil]); first | done | rfl | (simp only [List.length_drop, List.length_take]; rfl)) ?_
  with_reducible refine (dropperref04_ValidStack.calls a0_0 a0_1 a0_2 a0_3 t117 _ A8.out).mono ?_
  rintro e w34 ⟨rfl, hb⟩
  refine ⟨_, rfl, ?_⟩
  have n0_ := Aside0.mk (bkB BK101 hb)
  have n1_ := Aside0.mk (bkB BK105 hb)
  have n2_ := Aside0.mk (bkB BK109 hb)
  have n3_ := Aside0.mk (below_step (by repeat (first | (with_reducible first | exact HB.out | apply below_alloc | apply pw_below_drewN | apply below_drew1 | refine below_set ?_ GE101.out | refine below_set ?_ GE105.out | refine below_set ?_ GE109.out) | exact HB.out)) hb)
  clear BK101
  clear BK105
  clear BK109
  clear HB
  have BK101 := n0_
  have BK105 := n1_
  have BK109 := n2_
  have HB := n3_
  clear n0_ n1_ n2_ n3_
  (try clear hb)
  (try clear hb2)
  (try clear hk)
  (try clear hi)
  refine hK.out _ _ ⟨(blk_cell BK101.out 0).trans rfl, (blk_cell BK101.out 1).trans rfl, (blk_cell BK101.out 2).trans rfl, (blk_cell BK101.out 3).trans rfl, (blk_cell BK105.out 0).trans rfl, (blk_cell BK105.out 1).trans rfl, (blk_cell BK109.out 0).trans rfl, (blk_cell BK109.out 1).trans rfl⟩ (fun hHeld => ?_)
  clear hK K
  refine norm_ (a' := ?_) ?_ ?_
  rotate_left
  · show Act.put _ (some 42) _ = _
    simp only [Act.put, List.setIfInBounds_toArray, List.set_cons_zero, List.set_cons_succ, i64_w, i32_w]
    rfl
  refine pr_ 4 (some 43) (mkB 34 31) HT_ ?_
  refine pr_ 5 (some 44) (mkB 34 63) HT_ ?_
  refine take_ (i := 6) (N := some 45) (v := ?_) (a' := ?_) (mkB 34 127) rfl rfl (take_ofW HT_.out HW_.out (by kernel_rfl)) (fun _ _ _ h => h) (Or.inl ⟨by rfl, ?_⟩) hHeld ?_ ?_
  rotate_left
  · rintro w' ⟨s0, s1, s2, s3, s4, s5, s6, s7⟩
    go_simp
    with_reducible rfl
  rotate_left
  · simp only [Act.put, List.setIfInBounds_toArray, List.set_cons_zero, List.set_cons_succ, i64_w, i32_w]
    rfl
  refine take_ (i := 7) (N := some 46) (v := ?_) (a' := ?_) (mkB 34 255) rfl rfl (take_ofW HT_.out HW_.out (by kernel_rfl)) (fun _ _ _ h => h) (Or.inl ⟨by rfl, ?_⟩) hHeld ?_ ?_
  rotate_left
  · rintro w' ⟨s0, s1, s2, s3, s4, s5, s6, s7⟩
    go_simp
    with_reducible rfl
  rotate_left
  · simp only [Act.put, List.setIfInBounds_toArray, List.set_cons_zero, List.set_cons_succ, i64_w, i32_w]
    rfl
  refine pr_ 8 (some 47) (mkB 34 511) HT_ ?_
  refine pr_ 9 (some 48) (mkB 34 1023) HT_ ?_
  refine pr_ 10 (some 49) (mkB 34 2047) HT_ ?_
  refine pr_ 11 (some 50) (mkB 34 4095) HT_ ?_
  refine pr_ 12 (some 51) (mkB 34 8191) HT_ ?_
  refine pr_ 13 (some 52) (mkB 34 16383) HT_ ?_
  refine pr_ 14 (some 53) (mkB 34 32767) HT_ ?_
  refine pr_ 15 (some 54) (mkB 34 65535) HT_ ?_
  refine pr_ 16 (some 55) (mkB 34 131071) HT_ ?_
  refine pr_ 17 (some 56) (mkB 34 262143) HT_ ?_
  refine pr_ 18 (some 57) (mkB 34 524287) HT_ ?_
  refine pr_ 19 (some 58) (mkB 34 1048575) HT_ ?_
  refine pr_ 20 (some 59) (mkB 34 2097151) HT_ ?_
  refine pr_ 21 (some 60) (mkB 34 4194303) HT_ ?_
  refine pr_ 22 (some 61) (mkB 34 8388607) HT_ ?_
  refine pr_ 23 (some 62) (mkB 34 16777215) HT_ ?_
  refine pr_ 24 (some 63) (mkB 34 33554431) HT_ ?_
  refine pr_ 25 (some 64) (mkB 34 67108863) HT_ ?_
  refine pr_ 26 (some 65) (mkB 34 134217727) HT_ ?_
  refine pr_ 27 (some 66) (mkB 34 268435455) HT_ ?_
  refine pr_ 28 (some 67) (mkB 34 536870911) HT_ ?_
  refine pr_ 29 (some 68) (mkB 34 1073741823) HT_ ?_
  refine pr_ 30 (some 69) (mkB 34 2147483647) HT_ ?_
  refine one_ (i := 31) (N := some 70) (mkB 34 4294967295) rfl rfl (one_of HT_.out (by kernel_rfl)) (by decide) (fun K hK => ?_)
  refine goes_ Try.func18 (by kernel_rfl) rfl #[] (by rfl) rfl rfl (by (try simp only [List.map_toArray, List.map_cons, List.map_nil]); first | done | rfl | (simp only [List.length_drop, List.length_take]; rfl)) ?_
  with_reducible refine (dropperlaw04_Awake.calls k  t118 _ A15.out).mono ?_
  rintro e w35 ⟨rfl, hb⟩
  refine ⟨_, rfl, ?_⟩
  have n0_ := Aside0.mk (bkB BK101 hb)
  have n1_ := Aside0.mk (bkB BK105 hb)
  have n2_ := Aside0.mk (bkB BK109 hb)
  have n3_ := Aside0.mk (below_step (by repeat (first | (with_reducible first | exact HB.out | apply below_alloc | apply pw_below_drewN | apply below_drew1 | refine below_set ?_ GE101.out | refine below_set ?_ GE105.out | refine below_set ?_ GE109.out) | exact HB.out)) hb)
  clear BK101
  clear BK105
  clear BK109
  clear HB
  have BK101 := n0_
  have BK105 := n1_
  have BK109 := n2_
  have HB := n3_
  clear n0_ n1_ n2_ n3_
  (try clear hb)
  (try clear hb2)
  (try clear hk)
  (try clear hi)
  refine hK.out _ _ ⟨(blk_cell BK101.out 0).trans rfl, (blk_cell BK101.out 1).trans rfl, (blk_cell BK101.out 2).trans rfl, (blk_cell BK101.out 3).trans rfl, (blk_cell BK105.out 0).trans rfl, (blk_cell BK105.out 1).trans rfl, (blk_cell BK109.out 0).trans rfl, (blk_cell BK109.out 1).trans rfl⟩ (fun hHeld => ?_)
  clear hK K
  refine norm_ (a' := ?_) ?_ ?_
  rotate_left
  · show Act.put _ (some 70) _ = _
    simp only [Act.put, List.setIfInBounds_toArray, List.set_cons_zero, List.set_cons_succ, i64_w, i32_w]
    rfl
  refine pr_ 32 (some 71) (mkB 34 8589934591) HT_ ?_
  refine pr_ 33 (some 4) (mkB 34 17179869183) HT_ ?_
  refine done_ (done_of HT_.out (by kernel_rfl)) ?_
  try go_wp2
  go_ret
  exact ⟨by first | rfl | (simp [errW_none, errW_some] <;> rfl) | (simp [*, errW_none, errW_some] <;> rfl), by repeat (first | (with_reducible first | exact HB.out | apply below_alloc | apply pw_below_drewN | apply below_drew1 | refine below_set ?_ GE101.out | refine below_set ?_ GE105.out | refine below_set ?_ GE109.out) | exact HB.out)⟩
end Go.Proofs.Ytiebfmenkpodeaa.G
