-- Written by this session's driver (wip/tools/printmore.py) over the kit's print, with hand-written parts.
import Derived.Test.YtiebfmenkpodeaaGBase
import Derived.Test.YtiebfmenkpodeaaGF18
import Derived.Test.YtiebfmenkpodeaaGF19
import Derived.Test.YtiebfmenkpodeaaGF20
import Derived.Test.YtiebfmenkpodeaaGF21
import Derived.Test.YtiebfmenkpodeaaGF22
namespace Go.Proofs.Ytiebfmenkpodeaa.G
open Go.RowKit Go.Proofs.YtiebfmenkpodeaaW.PrintWords Go.Proofs.YtiebfmenkpodeaaW.PrintLast Go.Proofs.YtiebfmenkpodeaaW.PrintMore
attribute [local go_sem] max2_int min2_int max_two min_two max_three min_three max_four min_four   -- for this text's walks alone
set_option linter.unusedVariables false
set_option linter.unusedSimpArgs false

/-! ### dropperlaw04_PullLongest: function 4 -/
def dropperlaw04_PullLongest.f (k : Nat) (a0_0 : Int) (a0_1 : Int) (a0_2 : Int) (a0_3 : Int) (a1 : Int) (a2 : Int) : Option (Bool) := (pull_Longest.f k a0_0 a0_1 a0_2 a0_3 a1 a2).bind fun bt102 => ((dropperref04_Longest.f k a0_0 a0_1 a0_2 a0_3 a1 a2).bind fun bt104 => ((pull_Base.f a0_0 a0_1 a0_2 a0_3 a1 a2).bind fun bt106 => ((dropperref04_Base.f k a0_0 a0_1 a0_2 a0_3 a1 a2).bind fun bt108 => (if bt102.1 = bt104.1 then (if bt102.2 = bt104.2 then (if bt106.1 = bt108.1 then (if bt106.2 = bt108.2 then ((dropperlaw04_Awake.f k).bind fun t110 => (some t110)) else (some false)) else (some false)) else (some false)) else (some false)))))
theorem dropperlaw04_PullLongest.mono : ∀ a0 a1 a2 a3 a4 a5 k, LeO (dropperlaw04_PullLongest.f k a0 a1 a2 a3 a4 a5) (dropperlaw04_PullLongest.f (k + 1) a0 a1 a2 a3 a4 a5) := by
  intro a0 a1 a2 a3 a4 a5 k
  unfold dropperlaw04_PullLongest.f
  repeat' first
      | (with_reducible exact dropperlaw04_Awake.mono _)
      | (with_reducible exact dropperref04_Base.mono _ _ _ _ _ _ _)
      | (with_reducible exact dropperref04_Longest.mono _ _ _ _ _ _ _)
      | (with_reducible exact pull_Longest.mono _ _ _ _ _ _ _)
      | (with_reducible exact LeO.refl _)
      | (with_reducible exact LeO.none _)
      | (with_reducible refine LeO.ite ?_ ?_)
      | (with_reducible refine LeO.bind ?_ (fun _ => ?_))
      | exact dropperlaw04_Awake.mono _
      | exact dropperref04_Base.mono _ _ _ _ _ _ _
      | exact dropperref04_Longest.mono _ _ _ _ _ _ _
      | exact pull_Longest.mono _ _ _ _ _ _ _
      | exact LeO.none _
      | refine LeO.ite ?_ ?_
      | refine LeO.bind ?_ (fun _ => ?_)
set_option maxHeartbeats 8000000 in
set_option maxRecDepth 100000 in
theorem dropperlaw04_PullLongest.calls (k : Nat) (a0_0 : Int) (a0_1 : Int) (a0_2 : Int) (a0_3 : Int) (a1 : Int) (a2 : Int) (r : Bool) (w : World) (h : dropperlaw04_PullLongest.f k a0_0 a0_1 a0_2 a0_3 a1 a2 = some r) (hT : r = true) :
    Calls Try.prog 4 #[.agg #[.int .i64 a0_0, .int .i64 a0_1, .int .i64 a0_2, .int .i64 a0_3], .int .i64 a1, .int .i64 a2] w fun e w' => e = .returned (.bool r) ∧ Below w.heap.size w w' := by
  have hu23 := Try.underlying23
  have HB := Aside0.mk (Below.refl w.heap.size w)
  have H : ((pull_Longest.f k a0_0 a0_1 a0_2 a0_3 a1 a2).bind fun bt102 => ((dropperref04_Longest.f k a0_0 a0_1 a0_2 a0_3 a1 a2).bind fun bt104 => ((pull_Base.f a0_0 a0_1 a0_2 a0_3 a1 a2).bind fun bt106 => ((dropperref04_Base.f k a0_0 a0_1 a0_2 a0_3 a1 a2).bind fun bt108 => (if bt102.1 = bt104.1 then (if bt102.2 = bt104.2 then (if bt106.1 = bt108.1 then (if bt106.2 = bt108.2 then ((dropperlaw04_Awake.f k).bind fun t110 => (some t110)) else (some false)) else (some false)) else (some false)) else (some false)))))) = some r := h
  clear h
  replace H := Option.bind_eq_some_iff.mp H
  obtain ⟨⟨t102, t103⟩, A40, H⟩ := H
  replace H : ((dropperref04_Longest.f k a0_0 a0_1 a0_2 a0_3 a1 a2).bind fun bt104 => ((pull_Base.f a0_0 a0_1 a0_2 a0_3 a1 a2).bind fun bt106 => ((dropperref04_Base.f k a0_0 a0_1 a0_2 a0_3 a1 a2).bind fun bt108 => (if t102 = bt104.1 then (if t103 = bt104.2 then (if bt106.1 = bt108.1 then (if bt106.2 = bt108.2 then ((dropperlaw04_Awake.f k).bind fun t110 => (some t110)) else (some false)) else (some false)) else (some false)) else (some false))))) = some r := H
  have A4 := Aside0.mk A40
  clear A40
  replace H := Option.bind_eq_some_iff.mp H
  obtain ⟨⟨t104, t105⟩, A50, H⟩ := H
  replace H : ((pull_Base.f a0_0 a0_1 a0_2 a0_3 a1 a2).bind fun bt106 => ((dropperref04_Base.f k a0_0 a0_1 a0_2 a0_3 a1 a2).bind fun bt108 => (if t102 = t104 then (if t103 = t105 then (if bt106.1 = bt108.1 then (if bt106.2 = bt108.2 then ((dropperlaw04_Awake.f k).bind fun t110 => (some t110)) else (some false)) else (some false)) else (some false)) else (some false)))) = some r := H
  have A5 := Aside0.mk A50
  clear A50
  replace H := Option.bind_eq_some_iff.mp H
  obtain ⟨⟨t106, t107⟩, A60, H⟩ := H
  replace H : ((dropperref04_Base.f k a0_0 a0_1 a0_2 a0_3 a1 a2).bind fun bt108 => (if t102 = t104 then (if t103 = t105 then (if t106 = bt108.1 then (if t107 = bt108.2 then ((dropperlaw04_Awake.f k).bind fun t110 => (some t110)) else (some false)) else (some false)) else (some false)) else (some false))) = some r := H
  have A6 := Aside0.mk A60
  clear A60
  replace H := Option.bind_eq_some_iff.mp H
  obtain ⟨⟨t108, t109⟩, A70, H⟩ := H
  replace H : (if t102 = t104 then (if t103 = t105 then (if t106 = t108 then (if t107 = t109 then ((dropperlaw04_Awake.f k).bind fun t110 => (some t110)) else (some false)) else (some false)) else (some false)) else (some false)) = some r := H
  have A7 := Aside0.mk A70
  clear A70
  by_cases c8 : t102 = t104
  rotate_left
  · rw [if_neg c8] at H
    have c8b0 : (t102 == t104) = false := beq_eq_false_iff_ne.mpr c8
    have c8b1 : (t102 != t104) = true := bne_iff_ne.mpr c8
    exact absurd (hT.symm.trans (Option.some.inj H).symm) (by decide)

  rw [if_pos c8] at H
  have c8b0 : (t102 == t104) = true := beq_iff_eq.mpr c8
  have c8b1 : (t102 != t104) = false := bne_eq_false_iff_eq.mpr c8
  clear c8
  by_cases c9 : t103 = t105
  rotate_left
  · rw [if_neg c9] at H
    have c9b0 : (t103 == t105) = false := beq_eq_false_iff_ne.mpr c9
    have c9b1 : (t103 != t105) = true := bne_iff_ne.mpr c9
    exact absurd (hT.symm.trans (Option.some.inj H).symm) (by decide)
  rw [if_pos c9] at H
  have c9b0 : (t103 == t105) = true := beq_iff_eq.mpr c9
  have c9b1 : (t103 != t105) = false := bne_eq_false_iff_eq.mpr c9
  clear c9
  by_cases c10 : t106 = t108
  rotate_left
  · rw [if_neg c10] at H
    have c10b0 : (t106 == t108) = false := beq_eq_false_iff_ne.mpr c10
    have c10b1 : (t106 != t108) = true := bne_iff_ne.mpr c10
    exact absurd (hT.symm.trans (Option.some.inj H).symm) (by decide)
  rw [if_pos c10] at H
  have c10b0 : (t106 == t108) = true := beq_iff_eq.mpr c10
  have c10b1 : (t106 != t108) = false := bne_eq_false_iff_eq.mpr c10
  clear c10
  by_cases c11 : t107 = t109
  rotate_left
  · rw [if_neg c11] at H
    have c11b0 : (t107 == t109) = false := beq_eq_false_iff_ne.mpr c11
    have c11b1 : (t107 != t109) = true := bne_iff_ne.mpr c11
    exact absurd (hT.symm.trans (Option.some.inj H).symm) (by decide)
  rw [if_pos c11] at H
  have c11b0 : (t107 == t109) = true := beq_iff_eq.mpr c11
  have c11b1 : (t107 != t109) = false := bne_eq_false_iff_eq.mpr c11
  clear c11
  replace H := Option.bind_eq_some_iff.mp H
  obtain ⟨t110, A120, H⟩ := H
  replace H : (some t110) = some r := H
  have A12 := Aside0.mk A120
  clear A120
  clear hT
  obtain rfl := Option.some.inj H
  go_enter Try.func4, Try.ntmps4
  go_wp2_with (first | ((with_reducible refine gate_dst (N := 3) rfl ?_); refine box_event ?hg (N := 3) ?hd (cs := #[.int .i64 a0_0, .int .i64 a0_1, .int .i64 a0_2, .int .i64 a0_3]) (t := 23) ?hr ?_; (case hd => rfl); (case hg => rfl); (case hr => first | (go_simp; done) | (go_simp; rfl)); intro gb101 hg w13 hbox hb; have n0_ := Aside0.mk (below_step (by repeat (first | (with_reducible first | exact HB.out | apply below_alloc | apply pw_below_drewN | apply below_drew1) | exact HB.out)) hb); have n1_ := Aside0.mk (hbox); have n2_ := Aside0.mk ((by rw [hg]; exact (below_size (by repeat (first | (with_reducible first | exact HB.out | apply below_alloc | apply pw_below_drewN | apply below_drew1) | exact HB.out))) : w.heap.size ≤ gb101)); have n3_ := Aside0.mk ((by rw [hg]; exact (below_size (by repeat (first | (with_reducible first | exact HB.out | apply below_alloc | apply pw_below_drewN | apply below_drew1) | exact HB.out))) : w.heap.size ≤ gb101)); clear HB; have HB := n0_; have BK101 := n1_; have GW101 := n2_; have GE101 := n3_; clear n0_ n1_ n2_ n3_; clear hb hbox hg; have hcz14_0 : w13.cell? ⟨gb101, 0, none⟩ = some (.int .i64 a0_0) := (blk_cell BK101.out 0).trans rfl; have hcz14_1 : w13.cell? ⟨gb101, 1, none⟩ = some (.int .i64 a0_1) := (blk_cell BK101.out 1).trans rfl; have hcz14_2 : w13.cell? ⟨gb101, 2, none⟩ = some (.int .i64 a0_2) := (blk_cell BK101.out 2).trans rfl; have hcz14_3 : w13.cell? ⟨gb101, 3, none⟩ = some (.int .i64 a0_3) := (blk_cell BK101.out 3).trans rfl; have hfz14_0 := blk_frozen BK101.out 0; have hfz14_1 := blk_frozen BK101.out 1; have hfz14_2 := blk_frozen BK101.out 2; have hfz14_3 := blk_frozen BK101.out 3) | ((with_reducible refine gate_callee (f := 19) rfl ?_); refine goesL_ (some 19) rfl rfl Try.func19 (by kernel_rfl) rfl #[.agg #[.int .i64 a0_0, .int .i64 a0_1, .int .i64 a0_2, .int .i64 a0_3], .int .i64 a1, .int .i64 a2] rfl (by (try simp only [List.map_toArray, List.map_cons, List.map_nil]); first | done | rfl | (simp only [List.length_drop, List.length_take]; rfl)) ?_; (with_reducible refine (pull_Longest.calls k a0_0 a0_1 a0_2 a0_3 a1 a2 t102 t103 _ A4.out).mono ?_); rintro e w15 ⟨rfl, hb⟩; refine ⟨_, rfl, ?_⟩; have n0_ := Aside0.mk (bkB BK101 hb); have n1_ := Aside0.mk (below_step (by repeat (first | (with_reducible first | exact HB.out | apply below_alloc | apply pw_below_drewN | apply below_drew1 | refine below_set ?_ GE101.out) | exact HB.out)) hb); clear BK101; clear HB; have BK101 := n0_; have HB := n1_; clear n0_ n1_; (try clear hb); (try clear hb2); (try clear hk); (try clear hi); have hcz16_0 : w15.cell? ⟨gb101, 0, none⟩ = some (.int .i64 a0_0) := (blk_cell BK101.out 0).trans rfl; have hcz16_1 : w15.cell? ⟨gb101, 1, none⟩ = some (.int .i64 a0_1) := (blk_cell BK101.out 1).trans rfl; have hcz16_2 : w15.cell? ⟨gb101, 2, none⟩ = some (.int .i64 a0_2) := (blk_cell BK101.out 2).trans rfl; have hcz16_3 : w15.cell? ⟨gb101, 3, none⟩ = some (.int .i64 a0_3) := (blk_cell BK101.out 3).trans rfl; have hfz16_0 := blk_frozen BK101.out 0; have hfz16_1 := blk_frozen BK101.out 1; have hfz16_2 := blk_frozen BK101.out 2; have hfz16_3 := blk_frozen BK101.out 3) | ((with_reducible refine gate_callee (f := 20) rfl ?_); refine goesL_ (some 26) rfl rfl Try.func20 (by kernel_rfl) rfl #[.agg #[.int .i64 a0_0, .int .i64 a0_1, .int .i64 a0_2, .int .i64 a0_3], .int .i64 a1, .int .i64 a2] rfl (by (try simp only [List.map_toArray, List.map_cons, List.map_nil]); first | done | rfl | (simp only [List.length_drop, List.length_take]; rfl)) ?_; (with_reducible refine (dropperref04_Longest.calls k a0_0 a0_1 a0_2 a0_3 a1 a2 t104 t105 _ A5.out).mono ?_); rintro e w17 ⟨rfl, hb⟩; refine ⟨_, rfl, ?_⟩; have n0_ := Aside0.mk (bkB BK101 hb); have n1_ := Aside0.mk (below_step (by repeat (first | (with_reducible first | exact HB.out | apply below_alloc | apply pw_below_drewN | apply below_drew1 | refine below_set ?_ GE101.out) | exact HB.out)) hb); clear BK101; clear HB; have BK101 := n0_; have HB := n1_; clear n0_ n1_; (try clear hb); (try clear hb2); (try clear hk); (try clear hi); have hcz18_0 : w17.cell? ⟨gb101, 0, none⟩ = some (.int .i64 a0_0) := (blk_cell BK101.out 0).trans rfl; have hcz18_1 : w17.cell? ⟨gb101, 1, none⟩ = some (.int .i64 a0_1) := (blk_cell BK101.out 1).trans rfl; have hcz18_2 : w17.cell? ⟨gb101, 2, none⟩ = some (.int .i64 a0_2) := (blk_cell BK101.out 2).trans rfl; have hcz18_3 : w17.cell? ⟨gb101, 3, none⟩ = some (.int .i64 a0_3) := (blk_cell BK101.out 3).trans rfl; have hfz18_0 := blk_frozen BK101.out 0; have hfz18_1 := blk_frozen BK101.out 1; have hfz18_2 := blk_frozen BK101.out 2; have hfz18_3 := blk_frozen BK101.out 3) | ((with_reducible refine gate_callee (f := 21) rfl ?_); refine goesL_ (some 33) rfl rfl Try.func21 (by kernel_rfl) rfl #[.agg #[.int .i64 a0_0, .int .i64 a0_1, .int .i64 a0_2, .int .i64 a0_3], .int .i64 a1, .int .i64 a2] rfl (by (try simp only [List.map_toArray, List.map_cons, List.map_nil]); first | done | rfl | (simp only [List.length_drop, List.length_take]; rfl)) ?_; (with_reducible refine (pull_Base.calls a0_0 a0_1 a0_2 a0_3 a1 a2 t106 t107 _ A6.out).mono ?_); rintro e w19 ⟨rfl, hb⟩; refine ⟨_, rfl, ?_⟩; have n0_ := Aside0.mk (bkB BK101 hb); have n1_ := Aside0.mk (below_step (by repeat (first | (with_reducible first | exact HB.out | apply below_alloc | apply pw_below_drewN | apply below_drew1 | refine below_set ?_ GE101.out) | exact HB.out)) hb); clear BK101; clear HB; have BK101 := n0_; have HB := n1_; clear n0_ n1_; (try clear hb); (try clear hb2); (try clear hk); (try clear hi); have hcz20_0 : w19.cell? ⟨gb101, 0, none⟩ = some (.int .i64 a0_0) := (blk_cell BK101.out 0).trans rfl; have hcz20_1 : w19.cell? ⟨gb101, 1, none⟩ = some (.int .i64 a0_1) := (blk_cell BK101.out 1).trans rfl; have hcz20_2 : w19.cell? ⟨gb101, 2, none⟩ = some (.int .i64 a0_2) := (blk_cell BK101.out 2).trans rfl; have hcz20_3 : w19.cell? ⟨gb101, 3, none⟩ = some (.int .i64 a0_3) := (blk_cell BK101.out 3).trans rfl; have hfz20_0 := blk_frozen BK101.out 0; have hfz20_1 := blk_frozen BK101.out 1; have hfz20_2 := blk_frozen BK101.out 2; have hfz20_3 := blk_frozen BK101.out 3) | ((with_reducible refine gate_callee (f := 22) rfl ?_); refine goesL_ (some 40) rfl rfl Try.func22 (by kernel_rfl) rfl #[.agg #[.int .i64 a0_0, .int .i64 a0_1, .int .i64 a0_2, .int .i64 a0_3], .int .i64 a1, .int .i64 a2] rfl (by (try simp only [List.map_toArray, List.map_cons, List.map_nil]); first | done | rfl | (simp only [List.length_drop, List.length_take]; rfl)) ?_; (with_reducible refine (dropperref04_Base.calls k a0_0 a0_1 a0_2 a0_3 a1 a2 t108 t109 _ A7.out).mono ?_); rintro e w21 ⟨rfl, hb⟩; refine ⟨_, rfl, ?_⟩; have n0_ := Aside0.mk (bkB BK101 hb); have n1_ := Aside0.mk (below_step (by repeat (first | (with_reducible first | exact HB.out | apply below_alloc | apply pw_below_drewN | apply below_drew1 | refine below_set ?_ GE101.out) | exact HB.out)) hb); clear BK101; clear HB; have BK101 := n0_; have HB := n1_; clear n0_ n1_; (try clear hb); (try clear hb2); (try clear hk); (try clear hi)) | (go_at_call 18; (with_reducible refine (dropperlaw04_Awake.calls k  t110 _ A12.out).mono ?_); rintro e w22 ⟨rfl, hb⟩; have n0_ := Aside0.mk (bkB BK101 hb); have n1_ := Aside0.mk (below_step (by repeat (first | (with_reducible first | exact HB.out | apply below_alloc | apply pw_below_drewN | apply below_drew1 | refine below_set ?_ GE101.out) | exact HB.out)) hb); clear BK101; clear HB; have BK101 := n0_; have HB := n1_; clear n0_ n1_; (try clear hb); (try clear hb2); (try clear hk); (try clear hi)))
  go_ret
  exact ⟨by first | rfl | (simp [errW_none, errW_some] <;> rfl) | (simp [*, errW_none, errW_some] <;> rfl), by repeat (first | (with_reducible first | exact HB.out | apply below_alloc | apply pw_below_drewN | apply below_drew1 | refine below_set ?_ GE101.out) | exact HB.out)⟩
end Go.Proofs.Ytiebfmenkpodeaa.G
