-- Written by this session's driver (wip/tools/printmore.py) over the kit's print, with hand-written parts.
import Derived.Test.YtiebfmenkpodeaaGBase
import Derived.Test.YtiebfmenkpodeaaGF28
import Derived.Test.YtiebfmenkpodeaaGF18
import Derived.Test.YtiebfmenkpodeaaGF23
import Derived.Test.YtiebfmenkpodeaaGF30
import Derived.Test.YtiebfmenkpodeaaGF34
import Derived.Test.YtiebfmenkpodeaaGF41
import Derived.Test.YtiebfmenkpodeaaGF42
namespace Go.Proofs.Ytiebfmenkpodeaa.G
open Go.RowKit Go.Proofs.YtiebfmenkpodeaaW.PrintWords Go.Proofs.YtiebfmenkpodeaaW.PrintLast Go.Proofs.YtiebfmenkpodeaaW.PrintMore
attribute [local go_sem] max2_int min2_int max_two min_two max_three min_three max_four min_four   -- for this text's walks alone
set_option linter.unusedVariables false
set_option linter.unusedSimpArgs false

/-! ### dropperlaw04_PullAnchors: function 8 -/
def dropperlaw04_PullAnchors.f (k : Nat) (l0 : List Int) (a1_0 : Int) (a1_1 : Int) : Option (Bool) := (dropperlaw04_long.f l0 ([] : List Int)).bind fun t102 => (if t102 = true then ((dropperlaw04_Awake.f k).bind fun t103 => (some t103)) else ((pull_Anchors.f k l0 a1_0 a1_1).bind fun bt104 => ((dropperref04_Anchors.f k l0 a1_0 a1_1).bind fun bt108 => ((pull_Must.f k l0 a1_0 a1_1).bind fun bt112 => ((dropperref04_Must.f k l0 a1_0 a1_1).bind fun bt116 => (if bt104.2 = bt108.2 then ((dropperlaw04_SameInts.f k bt104.1 bt108.1).bind fun t120 => (if t120 = true then (if bt112.2 = bt116.2 then ((dropperlaw04_SameInts.f k bt112.1 bt116.1).bind fun t121 => (if t121 = true then ((dropperlaw04_Awake.f k).bind fun t122 => (some t122)) else (some false))) else (some false)) else (some false))) else (some false)))))))
theorem dropperlaw04_PullAnchors.mono : ∀ a0 a1 a2 k, LeO (dropperlaw04_PullAnchors.f k a0 a1 a2) (dropperlaw04_PullAnchors.f (k + 1) a0 a1 a2) := by
  intro a0 a1 a2 k
  unfold dropperlaw04_PullAnchors.f
  repeat' first
      | (with_reducible exact dropperlaw04_Awake.mono _)
      | (with_reducible exact dropperlaw04_SameInts.mono _ _ _)
      | (with_reducible exact dropperref04_Anchors.mono _ _ _ _)
      | (with_reducible exact dropperref04_Must.mono _ _ _ _)
      | (with_reducible exact pull_Anchors.mono _ _ _ _)
      | (with_reducible exact pull_Must.mono _ _ _ _)
      | (with_reducible exact LeO.refl _)
      | (with_reducible exact LeO.none _)
      | (with_reducible refine LeO.ite ?_ ?_)
      | (with_reducible refine LeO.bind ?_ (fun _ => ?_))
      | exact dropperlaw04_Awake.mono _
      | exact dropperlaw04_SameInts.mono _ _ _
      | exact dropperref04_Anchors.mono _ _ _ _
      | exact dropperref04_Must.mono _ _ _ _
      | exact pull_Anchors.mono _ _ _ _
      | exact pull_Must.mono _ _ _ _
      | exact LeO.none _
      | refine LeO.ite ?_ ?_
      | refine LeO.bind ?_ (fun _ => ?_)
set_option maxHeartbeats 8000000 in
set_option maxRecDepth 100000 in
theorem dropperlaw04_PullAnchors.calls (k : Nat) (A0 : Option Addr) (c0 : Nat) (l0 : List Int) (a1_0 : Int) (a1_1 : Int) (r : Bool) (w : World) (hr0 : Kd.C (Kd.int .i64) w A0 l0.length l0) (hc0 : l0.length ≤ c0) (h : dropperlaw04_PullAnchors.f k l0 a1_0 a1_1 = some r) (hT : r = true) :
    Calls Try.prog 8 #[.slice A0 l0.length c0, .agg #[.int .i64 a1_0, .int .i64 a1_1]] w fun e w' => e = .returned (.bool r) ∧ Below w.heap.size w w' := by
  have hu39 := Try.underlying39
  have HR0 := Aside0.mk hr0
  have HC0 := Aside0.mk hc0
  clear hr0 hc0
  have HB := Aside0.mk (Below.refl w.heap.size w)
  have H : ((dropperlaw04_long.f l0 ([] : List Int)).bind fun t102 => (if t102 = true then ((dropperlaw04_Awake.f k).bind fun t103 => (some t103)) else ((pull_Anchors.f k l0 a1_0 a1_1).bind fun bt104 => ((dropperref04_Anchors.f k l0 a1_0 a1_1).bind fun bt108 => ((pull_Must.f k l0 a1_0 a1_1).bind fun bt112 => ((dropperref04_Must.f k l0 a1_0 a1_1).bind fun bt116 => (if bt104.2 = bt108.2 then ((dropperlaw04_SameInts.f k bt104.1 bt108.1).bind fun t120 => (if t120 = true then (if bt112.2 = bt116.2 then ((dropperlaw04_SameInts.f k bt112.1 bt116.1).bind fun t121 => (if t121 = true then ((dropperlaw04_Awake.f k).bind fun t122 => (some t122)) else (some false))) else (some false)) else (some false))) else (some false)))))))) = some r := h
  clear h
  replace H := Option.bind_eq_some_iff.mp H
  obtain ⟨t102, A30, H⟩ := H
  replace H : (if t102 = true then ((dropperlaw04_Awake.f k).bind fun t103 => (some t103)) else ((pull_Anchors.f k l0 a1_0 a1_1).bind fun bt104 => ((dropperref04_Anchors.f k l0 a1_0 a1_1).bind fun bt108 => ((pull_Must.f k l0 a1_0 a1_1).bind fun bt112 => ((dropperref04_Must.f k l0 a1_0 a1_1).bind fun bt116 => (if bt104.2 = bt108.2 then ((dropperlaw04_SameInts.f k bt104.1 bt108.1).bind fun t120 => (if t120 = true then (if bt112.2 = bt116.2 then ((dropperlaw04_SameInts.f k bt112.1 bt116.1).bind fun t121 => (if t121 = true then ((dropperlaw04_Awake.f k).bind fun t122 => (some t122)) else (some false))) else (some false)) else (some false))) else (some false))))))) = some r := H
  have A3 := Aside0.mk A30
  clear A30
  by_cases c4 : t102 = true
  · subst c4
    have H1 : ((dropperlaw04_Awake.f k).bind fun t103 => (some t103)) = some r := by rw [if_pos rfl] at H; exact H
    clear H
    have H := H1
    clear H1
    replace H := Option.bind_eq_some_iff.mp H
    obtain ⟨t103, A50, H⟩ := H
    replace H : (some t103) = some r := H
    have A5 := Aside0.mk A50
    clear A50
    clear hT
    obtain rfl := Option.some.inj H
    go_enter Try.func8, Try.ntmps8
    go_wp2_with (first | ((with_reducible refine gate_dst (N := 3) rfl ?_); refine box_event ?hg (N := 3) ?hd (cs := #[.int .i64 a1_0, .int .i64 a1_1]) (t := 39) ?hr ?_; (case hd => rfl); (case hg => rfl); (case hr => first | (go_simp; done) | (go_simp; rfl)); intro gb101 hg w6 hbox hb; have n0_ := Aside0.mk (below_step (by repeat (first | (with_reducible first | exact HB.out | apply below_alloc | apply pw_below_drewN | apply below_drew1) | exact HB.out)) hb); have n1_ := Aside0.mk (hbox); have n2_ := Aside0.mk ((by rw [hg]; exact (below_size (by repeat (first | (with_reducible first | exact HB.out | apply below_alloc | apply pw_below_drewN | apply below_drew1) | exact HB.out))) : w.heap.size ≤ gb101)); have n3_ := Aside0.mk ((by rw [hg]; exact (below_size (by repeat (first | (with_reducible first | exact HB.out | apply below_alloc | apply pw_below_drewN | apply below_drew1) | exact HB.out))) : w.heap.size ≤ gb101)); clear HB; have HB := n0_; have BK101 := n1_; have GW101 := n2_; have GE101 := n3_; clear n0_ n1_ n2_ n3_; clear hb hbox hg) | ((with_reducible refine gate_callee (f := 23) rfl ?_); refine goesL_ (some 14) rfl rfl Try.func23 (by kernel_rfl) rfl #[.slice A0 l0.length c0, .slice none 0 0] rfl (by (try simp only [List.map_toArray, List.map_cons, List.map_nil]); first | done | rfl | (simp only [List.length_drop, List.length_take]; rfl)) ?_; (refine (dropperlaw04_long.calls _ _ l0 _ _ ([] : List Int) true _ ?side1 ?side2 ?side3 ?side4 A3.out).mono ?_); (case side1 => repeat (first | exact (Kd.C_below HR0.out HB.out) | (with_reducible refine Kd.C_alloc ?_ _) | (with_reducible refine Kd.C_drewN ?_ _) | (with_reducible refine Kd.C_drew ?_))); (case side2 => exact HC0.out); (case side3 => exact Kd.C_nil _ _); (case side4 => exact Nat.le_refl _); rintro e w' ⟨rfl, ⟨nd, rfl⟩⟩; refine ⟨_, rfl, ?_⟩) | ((with_reducible refine gate_callee (f := 18) rfl ?_); refine goesL_ (some 15) rfl rfl Try.func18 (by kernel_rfl) rfl #[] rfl (by (try simp only [List.map_toArray, List.map_cons, List.map_nil]); first | done | rfl | (simp only [List.length_drop, List.length_take]; rfl)) ?_; (with_reducible refine (dropperlaw04_Awake.calls k  t103 _ A5.out).mono ?_); rintro e w7 ⟨rfl, hb⟩; refine ⟨_, rfl, ?_⟩; have n0_ := Aside0.mk (bkB BK101 hb); have n1_ := Aside0.mk (below_step (by repeat (first | (with_reducible first | exact HB.out | apply below_alloc | apply pw_below_drewN | apply below_drew1 | refine below_set ?_ GE101.out) | exact HB.out)) hb); clear BK101; clear HB; have BK101 := n0_; have HB := n1_; clear n0_ n1_; (try clear hb); (try clear hb2); (try clear hk); (try clear hi)))
    go_ret
    exact ⟨by first | rfl | (simp [errW_none, errW_some] <;> rfl) | (simp [*, errW_none, errW_some] <;> rfl), by repeat (first | (with_reducible first | exact HB.out | apply below_alloc | apply pw_below_drewN | apply below_drew1 | refine below_set ?_ GE101.out) | exact HB.out)⟩
  replace c4 := Bool.eq_false_iff.mpr c4
  subst c4
  have H1 : ((pull_Anchors.f k l0 a1_0 a1_1).bind fun bt104 => ((dropperref04_Anchors.f k l0 a1_0 a1_1).bind fun bt108 => ((pull_Must.f k l0 a1_0 a1_1).bind fun bt112 => ((dropperref04_Must.f k l0 a1_0 a1_1).bind fun bt116 => (if bt104.2 = bt108.2 then ((dropperlaw04_SameInts.f k bt104.1 bt108.1).bind fun t120 => (if t120 = true then (if bt112.2 = bt116.2 then ((dropperlaw04_SameInts.f k bt112.1 bt116.1).bind fun t121 => (if t121 = true then ((dropperlaw04_Awake.f k).bind fun t122 => (some t122)) else (some false))) else (some false)) else (some false))) else (some false)))))) = some r := by rw [if_neg (show ¬ (false = true) by decide)] at H; exact H
  clear H
  have H := H1
  clear H1
  replace H := Option.bind_eq_some_iff.mp H
  obtain ⟨⟨t104, t105⟩, A80, H⟩ := H
  replace H : ((dropperref04_Anchors.f k l0 a1_0 a1_1).bind fun bt108 => ((pull_Must.f k l0 a1_0 a1_1).bind fun bt112 => ((dropperref04_Must.f k l0 a1_0 a1_1).bind fun bt116 => (if t105 = bt108.2 then ((dropperlaw04_SameInts.f k t104 bt108.1).bind fun t120 => (if t120 = true then (if bt112.2 = bt116.2 then ((dropperlaw04_SameInts.f k bt112.1 bt116.1).bind fun t121 => (if t121 = true then ((dropperlaw04_Awake.f k).bind fun t122 => (some t122)) else (some false))) else (some false)) else (some false))) else (some false))))) = some r := H
  have A8 := Aside0.mk A80
  clear A80
  replace H := Option.bind_eq_some_iff.mp H
  obtain ⟨⟨t108, t109⟩, A90, H⟩ := H
  replace H : ((pull_Must.f k l0 a1_0 a1_1).bind fun bt112 => ((dropperref04_Must.f k l0 a1_0 a1_1).bind fun bt116 => (if t105 = t109 then ((dropperlaw04_SameInts.f k t104 t108).bind fun t120 => (if t120 = true then (if bt112.2 = bt116.2 then ((dropperlaw04_SameInts.f k bt112.1 bt116.1).bind fun t121 => (if t121 = true then ((dropperlaw04_Awake.f k).bind fun t122 => (some t122)) else (some false))) else (some false)) else (some false))) else (some false)))) = some r := H
  have A9 := Aside0.mk A90
  clear A90
  replace H := Option.bind_eq_some_iff.mp H
  obtain ⟨⟨t112, t113⟩, A100, H⟩ := H
  replace H : ((dropperref04_Must.f k l0 a1_0 a1_1).bind fun bt116 => (if t105 = t109 then ((dropperlaw04_SameInts.f k t104 t108).bind fun t120 => (if t120 = true then (if t113 = bt116.2 then ((dropperlaw04_SameInts.f k t112 bt116.1).bind fun t121 => (if t121 = true then ((dropperlaw04_Awake.f k).bind fun t122 => (some t122)) else (some false))) else (some false)) else (some false))) else (some false))) = some r := H
  have A10 := Aside0.mk A100
  clear A100
  replace H := Option.bind_eq_some_iff.mp H
  obtain ⟨⟨t116, t117⟩, A110, H⟩ := H
  replace H : (if t105 = t109 then ((dropperlaw04_SameInts.f k t104 t108).bind fun t120 => (if t120 = true then (if t113 = t117 then ((dropperlaw04_SameInts.f k t112 t116).bind fun t121 => (if t121 = true then ((dropperlaw04_Awake.f k).bind fun t122 => (some t122)) else (some false))) else (some false)) else (some false))) else (some false)) = some r := H
  have A11 := Aside0.mk A110
  clear A110
  by_cases c12 : t105 = t109
  rotate_left
  · rw [if_neg c12] at H
    have c12b0 : (t105 == t109) = false := beq_eq_false_iff_ne.mpr c12
    have c12b1 : (t105 != t109) = true := bne_iff_ne.mpr c12
    exact absurd (hT.symm.trans (Option.some.inj H).symm) (by decide)

  rw [if_pos c12] at H
  have c12b0 : (t105 == t109) = true := beq_iff_eq.mpr c12
  have c12b1 : (t105 != t109) = false := bne_eq_false_iff_eq.mpr c12
  clear c12
  replace H := Option.bind_eq_some_iff.mp H
  obtain ⟨t120, A130, H⟩ := H
  replace H : (if t120 = true then (if t113 = t117 then ((dropperlaw04_SameInts.f k t112 t116).bind fun t121 => (if t121 = true then ((dropperlaw04_Awake.f k).bind fun t122 => (some t122)) else (some false))) else (some false)) else (some false)) = some r := H
  have A13 := Aside0.mk A130
  clear A130
  by_cases c14 : t120 = true
  rotate_left
  · replace c14 := Bool.eq_false_iff.mpr c14
    subst c14
    have H1 : (some false) = some r := by rw [if_neg (show ¬ (false = true) by decide)] at H; exact H
    clear H
    have H := H1
    clear H1
    exact absurd (hT.symm.trans (Option.some.inj H).symm) (by decide)
  subst c14
  have H1 : (if t113 = t117 then ((dropperlaw04_SameInts.f k t112 t116).bind fun t121 => (if t121 = true then ((dropperlaw04_Awake.f k).bind fun t122 => (some t122)) else (some false))) else (some false)) = some r := by rw [if_pos rfl] at H; exact H
  clear H
  have H := H1
  clear H1
  by_cases c15 : t113 = t117
  rotate_left
  · rw [if_neg c15] at H
    have c15b0 : (t113 == t117) = false := beq_eq_false_iff_ne.mpr c15
    have c15b1 : (t113 != t117) = true := bne_iff_ne.mpr c15
    exact absurd (hT.symm.trans (Option.some.inj H).symm) (by decide)
  rw [if_pos c15] at H
  have c15b0 : (t113 == t117) = true := beq_iff_eq.mpr c15
  have c15b1 : (t113 != t117) = false := bne_eq_false_iff_eq.mpr c15
  clear c15
  replace H := Option.bind_eq_some_iff.mp H
  obtain ⟨t121, A160, H⟩ := H
  replace H : (if t121 = true then ((dropperlaw04_Awake.f k).bind fun t122 => (some t122)) else (some false)) = some r := H
  have A16 := Aside0.mk A160
  clear A160
  by_cases c17 : t121 = true
  rotate_left
  · replace c17 := Bool.eq_false_iff.mpr c17
    subst c17
    have H1 : (some false) = some r := by rw [if_neg (show ¬ (false = true) by decide)] at H; exact H
    clear H
    have H := H1
    clear H1
    exact absurd (hT.symm.trans (Option.some.inj H).symm) (by decide)
  subst c17
  have H1 : ((dropperlaw04_Awake.f k).bind fun t122 => (some t122)) = some r := by rw [if_pos rfl] at H; exact H
  clear H
  have H := H1
  clear H1
  replace H := Option.bind_eq_some_iff.mp H
  obtain ⟨t122, A180, H⟩ := H
  replace H : (some t122) = some r := H
  have A18 := Aside0.mk A180
  clear A180
  clear hT
  obtain rfl := Option.some.inj H
  go_enter Try.func8, Try.ntmps8
  go_wp2_with (first | ((with_reducible refine gate_dst (N := 3) rfl ?_); refine box_event ?hg (N := 3) ?hd (cs := #[.int .i64 a1_0, .int .i64 a1_1]) (t := 39) ?hr ?_; (case hd => rfl); (case hg => rfl); (case hr => first | (go_simp; done) | (go_simp; rfl)); intro gb101 hg w19 hbox hb; have n0_ := Aside0.mk (below_step (by repeat (first | (with_reducible first | exact HB.out | apply below_alloc | apply pw_below_drewN | apply below_drew1) | exact HB.out)) hb); have n1_ := Aside0.mk (hbox); have n2_ := Aside0.mk ((by rw [hg]; exact (below_size (by repeat (first | (with_reducible first | exact HB.out | apply below_alloc | apply pw_below_drewN | apply below_drew1) | exact HB.out))) : w.heap.size ≤ gb101)); have n3_ := Aside0.mk ((by rw [hg]; exact (below_size (by repeat (first | (with_reducible first | exact HB.out | apply below_alloc | apply pw_below_drewN | apply below_drew1) | exact HB.out))) : w.heap.size ≤ gb101)); clear HB; have HB := n0_; have BK101 := n1_; have GW101 := n2_; have GE101 := n3_; clear n0_ n1_ n2_ n3_; clear hb hbox hg) | ((with_reducible refine gate_callee (f := 23) rfl ?_); refine goesL_ (some 14) rfl rfl Try.func23 (by kernel_rfl) rfl #[.slice A0 l0.length c0, .slice none 0 0] rfl (by (try simp only [List.map_toArray, List.map_cons, List.map_nil]); first | done | rfl | (simp only [List.length_drop, List.length_take]; rfl)) ?_; (refine (dropperlaw04_long.calls _ _ l0 _ _ ([] : List Int) false _ ?side1 ?side2 ?side3 ?side4 A3.out).mono ?_); (case side1 => repeat (first | exact (Kd.C_below HR0.out HB.out) | (with_reducible refine Kd.C_alloc ?_ _) | (with_reducible refine Kd.C_drewN ?_ _) | (with_reducible refine Kd.C_drew ?_))); (case side2 => exact HC0.out); (case side3 => exact Kd.C_nil _ _); (case side4 => exact Nat.le_refl _); rintro e w' ⟨rfl, ⟨nd, rfl⟩⟩; refine ⟨_, rfl, ?_⟩; have hcz20_0 : w19.cell? ⟨gb101, 0, none⟩ = some (.int .i64 a1_0) := (blk_cell BK101.out 0).trans rfl; have hcz20_1 : w19.cell? ⟨gb101, 1, none⟩ = some (.int .i64 a1_1) := (blk_cell BK101.out 1).trans rfl; have hfz20_0 := blk_frozen BK101.out 0; have hfz20_1 := blk_frozen BK101.out 1) | ((with_reducible refine gate_callee (f := 30) rfl ?_); refine goesL_ (some 22) rfl rfl Try.func30 (by kernel_rfl) rfl #[.slice A0 l0.length c0, .int .i64 a1_0, .int .i64 a1_1] rfl (by (try simp only [List.map_toArray, List.map_cons, List.map_nil]); first | done | rfl | (simp only [List.length_drop, List.length_take]; rfl)) ?_; (with_reducible refine (pull_Anchors.calls k _ _ l0 a1_0 a1_1 t104 t105 _ ?side1 ?side2 A8.out).mono ?_); (case side1 => repeat (first | exact (Kd.C_below HR0.out (by repeat (first | (with_reducible first | exact HB.out | apply below_alloc | apply pw_below_drewN | apply below_drew1 | refine below_set ?_ GE101.out) | exact HB.out))) | (with_reducible refine Kd.C_alloc ?_ _) | (with_reducible refine Kd.C_drewN ?_ _) | (with_reducible refine Kd.C_drew ?_))); (case side2 => exact HC0.out); rintro e w21 ⟨v106, rfl, ho0, hb⟩; refine ⟨_, rfl, ?_⟩; have n0_ := Aside0.mk (Kd.R_lower ho0 (below_size (by repeat (first | (with_reducible first | exact HB.out | apply below_alloc | apply pw_below_drewN | apply below_drew1 | refine below_set ?_ GE101.out) | exact HB.out)))); have n1_ := Aside0.mk (bkB BK101 hb); have n2_ := Aside0.mk (below_step (by repeat (first | (with_reducible first | exact HB.out | apply below_alloc | apply pw_below_drewN | apply below_drew1 | refine below_set ?_ GE101.out) | exact HB.out)) hb); clear BK101; clear HB; have HO107 := n0_; have BK101 := n1_; have HB := n2_; clear n0_ n1_ n2_; (try clear hb); (try clear hb2); (try clear hk); (try clear hi); (try clear ho0); have hcz22_0 : w21.cell? ⟨gb101, 0, none⟩ = some (.int .i64 a1_0) := (blk_cell BK101.out 0).trans rfl; have hcz22_1 : w21.cell? ⟨gb101, 1, none⟩ = some (.int .i64 a1_1) := (blk_cell BK101.out 1).trans rfl; have hfz22_0 := blk_frozen BK101.out 0; have hfz22_1 := blk_frozen BK101.out 1) | ((with_reducible refine gate_callee (f := 41) rfl ?_); refine goesL_ (some 31) rfl rfl Try.func41 (by kernel_rfl) rfl #[.slice A0 l0.length c0, .int .i64 a1_0, .int .i64 a1_1] rfl (by (try simp only [List.map_toArray, List.map_cons, List.map_nil]); first | done | rfl | (simp only [List.length_drop, List.length_take]; rfl)) ?_; (with_reducible refine (dropperref04_Anchors.calls k _ _ l0 a1_0 a1_1 t108 t109 _ ?side1 ?side2 A9.out).mono ?_); (case side1 => repeat (first | exact (Kd.C_below HR0.out HB.out) | (with_reducible refine Kd.C_alloc ?_ _) | (with_reducible refine Kd.C_drewN ?_ _) | (with_reducible refine Kd.C_drew ?_))); (case side2 => exact HC0.out); rintro e w23 ⟨v110, rfl, ho0, hb⟩; refine ⟨_, rfl, ?_⟩; have n0_ := Aside0.mk (Kd.R_elder' (by (with_reducible repeat (first | apply Kd.R_alloc | apply Kd.R_drewN | apply Kd.R_drew)); exact HO107.out) (Kd.R_base ho0) hb); have n1_ := Aside0.mk (Kd.R_lower (Kd.R_new' ho0 (Kd.R_lt (by (with_reducible repeat (first | apply Kd.R_alloc | apply Kd.R_drewN | apply Kd.R_drew)); exact HO107.out))) (below_size (by repeat (first | (with_reducible first | exact HB.out | apply below_alloc | apply pw_below_drewN | apply below_drew1 | refine below_set ?_ GE101.out) | exact HB.out)))); have n2_ := Aside0.mk (bkB BK101 hb); have n3_ := Aside0.mk (below_step (by repeat (first | (with_reducible first | exact HB.out | apply below_alloc | apply pw_below_drewN | apply below_drew1 | refine below_set ?_ GE101.out) | exact HB.out)) hb); clear HO107; clear BK101; clear HB; have HO107 := n0_; have HO111 := n1_; have BK101 := n2_; have HB := n3_; clear n0_ n1_ n2_ n3_; (try clear hb); (try clear hb2); (try clear hk); (try clear hi); (try clear ho0); have hcz24_0 : w23.cell? ⟨gb101, 0, none⟩ = some (.int .i64 a1_0) := (blk_cell BK101.out 0).trans rfl; have hcz24_1 : w23.cell? ⟨gb101, 1, none⟩ = some (.int .i64 a1_1) := (blk_cell BK101.out 1).trans rfl; have hfz24_0 := blk_frozen BK101.out 0; have hfz24_1 := blk_frozen BK101.out 1) | ((with_reducible refine gate_callee (f := 34) rfl ?_); refine goesL_ (some 40) rfl rfl Try.func34 (by kernel_rfl) rfl #[.slice A0 l0.length c0, .int .i64 a1_0, .int .i64 a1_1] rfl (by (try simp only [List.map_toArray, List.map_cons, List.map_nil]); first | done | rfl | (simp only [List.length_drop, List.length_take]; rfl)) ?_; (with_reducible refine (pull_Must.calls k _ _ l0 a1_0 a1_1 t112 t113 _ ?side1 ?side2 A10.out).mono ?_); (case side1 => repeat (first | exact (Kd.C_below HR0.out HB.out) | (with_reducible refine Kd.C_alloc ?_ _) | (with_reducible refine Kd.C_drewN ?_ _) | (with_reducible refine Kd.C_drew ?_))); (case side2 => exact HC0.out); rintro e w25 ⟨v114, rfl, ho0, hb⟩; refine ⟨_, rfl, ?_⟩; have n0_ := Aside0.mk (Kd.R_elder' (by (with_reducible repeat (first | apply Kd.R_alloc | apply Kd.R_drewN | apply Kd.R_drew)); exact HO107.out) (Kd.R_base ho0) hb); have n1_ := Aside0.mk (Kd.R_elder' (by (with_reducible repeat (first | apply Kd.R_alloc | apply Kd.R_drewN | apply Kd.R_drew)); exact HO111.out) (Kd.R_base ho0) hb); have n2_ := Aside0.mk (Kd.R_lower (Kd.R_new' (Kd.R_new' ho0 (Kd.R_lt (by (with_reducible repeat (first | apply Kd.R_alloc | apply Kd.R_drewN | apply Kd.R_drew)); exact HO107.out))) (Kd.R_lt (by (with_reducible repeat (first | apply Kd.R_alloc | apply Kd.R_drewN | apply Kd.R_drew)); exact HO111.out))) (below_size (by repeat (first | (with_reducible first | exact HB.out | apply below_alloc | apply pw_below_drewN | apply below_drew1 | refine below_set ?_ GE101.out) | exact HB.out)))); have n3_ := Aside0.mk (bkB BK101 hb); have n4_ := Aside0.mk (below_step (by repeat (first | (with_reducible first | exact HB.out | apply below_alloc | apply pw_below_drewN | apply below_drew1 | refine below_set ?_ GE101.out) | exact HB.out)) hb); clear HO107; clear HO111; clear BK101; clear HB; have HO107 := n0_; have HO111 := n1_; have HO115 := n2_; have BK101 := n3_; have HB := n4_; clear n0_ n1_ n2_ n3_ n4_; (try clear hb); (try clear hb2); (try clear hk); (try clear hi); (try clear ho0); have hcz26_0 : w25.cell? ⟨gb101, 0, none⟩ = some (.int .i64 a1_0) := (blk_cell BK101.out 0).trans rfl; have hcz26_1 : w25.cell? ⟨gb101, 1, none⟩ = some (.int .i64 a1_1) := (blk_cell BK101.out 1).trans rfl; have hfz26_0 := blk_frozen BK101.out 0; have hfz26_1 := blk_frozen BK101.out 1) | ((with_reducible refine gate_callee (f := 42) rfl ?_); refine goesL_ (some 49) rfl rfl Try.func42 (by kernel_rfl) rfl #[.slice A0 l0.length c0, .int .i64 a1_0, .int .i64 a1_1] rfl (by (try simp only [List.map_toArray, List.map_cons, List.map_nil]); first | done | rfl | (simp only [List.length_drop, List.length_take]; rfl)) ?_; (with_reducible refine (dropperref04_Must.calls k _ _ l0 a1_0 a1_1 t116 t117 _ ?side1 ?side2 A11.out).mono ?_); (case side1 => repeat (first | exact (Kd.C_below HR0.out HB.out) | (with_reducible refine Kd.C_alloc ?_ _) | (with_reducible refine Kd.C_drewN ?_ _) | (with_reducible refine Kd.C_drew ?_))); (case side2 => exact HC0.out); rintro e w27 ⟨v118, rfl, ho0, hb⟩; refine ⟨_, rfl, ?_⟩; have n0_ := Aside0.mk (Kd.R_elder' (by (with_reducible repeat (first | apply Kd.R_alloc | apply Kd.R_drewN | apply Kd.R_drew)); exact HO107.out) (Kd.R_base ho0) hb); have n1_ := Aside0.mk (Kd.R_elder' (by (with_reducible repeat (first | apply Kd.R_alloc | apply Kd.R_drewN | apply Kd.R_drew)); exact HO111.out) (Kd.R_base ho0) hb); have n2_ := Aside0.mk (Kd.R_elder' (by (with_reducible repeat (first | apply Kd.R_alloc | apply Kd.R_drewN | apply Kd.R_drew)); exact HO115.out) (Kd.R_base ho0) hb); have n3_ := Aside0.mk (Kd.R_lower (Kd.R_new' (Kd.R_new' (Kd.R_new' ho0 (Kd.R_lt (by (with_reducible repeat (first | apply Kd.R_alloc | apply Kd.R_drewN | apply Kd.R_drew)); exact HO107.out))) (Kd.R_lt (by (with_reducible repeat (first | apply Kd.R_alloc | apply Kd.R_drewN | apply Kd.R_drew)); exact HO111.out))) (Kd.R_lt (by (with_reducible repeat (first | apply Kd.R_alloc | apply Kd.R_drewN | apply Kd.R_drew)); exact HO115.out))) (below_size (by repeat (first | (with_reducible first | exact HB.out | apply below_alloc | apply pw_below_drewN | apply below_drew1 | refine below_set ?_ GE101.out) | exact HB.out)))); have n4_ := Aside0.mk (bkB BK101 hb); have n5_ := Aside0.mk (below_step (by repeat (first | (with_reducible first | exact HB.out | apply below_alloc | apply pw_below_drewN | apply below_drew1 | refine below_set ?_ GE101.out) | exact HB.out)) hb); clear HO107; clear HO111; clear HO115; clear BK101; clear HB; have HO107 := n0_; have HO111 := n1_; have HO115 := n2_; have HO119 := n3_; have BK101 := n4_; have HB := n5_; clear n0_ n1_ n2_ n3_ n4_ n5_; (try clear hb); (try clear hb2); (try clear hk); (try clear hi); (try clear ho0); obtain ⟨Ao28, co28, eo28⟩ := Kd.R_slice HO107.out; subst eo28; obtain ⟨Ao29, co29, eo29⟩ := Kd.R_slice HO111.out; subst eo29) | (go_at_call 28; (with_reducible refine (dropperlaw04_SameInts.calls k _ _ t104 _ _ t108 true _ ?side1 ?side2 ?side3 ?side4 A13.out).mono ?_); (case side1 => repeat (first | exact (Kd.R_reads' HO107.out).2.2 | (with_reducible refine Kd.C_alloc ?_ _) | (with_reducible refine Kd.C_drewN ?_ _) | (with_reducible refine Kd.C_drew ?_))); (case side2 => exact (Kd.R_reads' HO107.out).2.1); (case side3 => repeat (first | exact (Kd.R_reads' HO111.out).2.2 | (with_reducible refine Kd.C_alloc ?_ _) | (with_reducible refine Kd.C_drewN ?_ _) | (with_reducible refine Kd.C_drew ?_))); (case side4 => exact (Kd.R_reads' HO111.out).2.1); rintro e w' ⟨rfl, ⟨nd, rfl⟩⟩; obtain ⟨Ao30, co30, eo30⟩ := Kd.R_slice HO115.out; subst eo30; obtain ⟨Ao31, co31, eo31⟩ := Kd.R_slice HO119.out; subst eo31) | (go_at_call 28; (with_reducible refine (dropperlaw04_SameInts.calls k _ _ t112 _ _ t116 true _ ?side1 ?side2 ?side3 ?side4 A16.out).mono ?_); (case side1 => repeat (first | exact (Kd.R_reads' HO115.out).2.2 | (with_reducible refine Kd.C_alloc ?_ _) | (with_reducible refine Kd.C_drewN ?_ _) | (with_reducible refine Kd.C_drew ?_))); (case side2 => exact (Kd.R_reads' HO115.out).2.1); (case side3 => repeat (first | exact (Kd.R_reads' HO119.out).2.2 | (with_reducible refine Kd.C_alloc ?_ _) | (with_reducible refine Kd.C_drewN ?_ _) | (with_reducible refine Kd.C_drew ?_))); (case side4 => exact (Kd.R_reads' HO119.out).2.1); rintro e w' ⟨rfl, ⟨nd, rfl⟩⟩) | (go_at_call 18; (with_reducible refine (dropperlaw04_Awake.calls k  t122 _ A18.out).mono ?_); rintro e w32 ⟨rfl, hb⟩; have n0_ := Aside0.mk (Kd.R_below (by (with_reducible repeat (first | apply Kd.R_alloc | apply Kd.R_drewN | apply Kd.R_drew)); exact HO107.out) hb); have n1_ := Aside0.mk (Kd.R_below (by (with_reducible repeat (first | apply Kd.R_alloc | apply Kd.R_drewN | apply Kd.R_drew)); exact HO111.out) hb); have n2_ := Aside0.mk (Kd.R_below (by (with_reducible repeat (first | apply Kd.R_alloc | apply Kd.R_drewN | apply Kd.R_drew)); exact HO115.out) hb); have n3_ := Aside0.mk (Kd.R_below (by (with_reducible repeat (first | apply Kd.R_alloc | apply Kd.R_drewN | apply Kd.R_drew)); exact HO119.out) hb); have n4_ := Aside0.mk (bkB BK101 hb); have n5_ := Aside0.mk (below_step (by repeat (first | (with_reducible first | exact HB.out | apply below_alloc | apply pw_below_drewN | apply below_drew1 | refine below_set ?_ GE101.out) | exact HB.out)) hb); clear HO107; clear HO111; clear HO115; clear HO119; clear BK101; clear HB; have HO107 := n0_; have HO111 := n1_; have HO115 := n2_; have HO119 := n3_; have BK101 := n4_; have HB := n5_; clear n0_ n1_ n2_ n3_ n4_ n5_; (try clear hb); (try clear hb2); (try clear hk); (try clear hi)))
  go_ret
  exact ⟨by first | rfl | (simp [errW_none, errW_some] <;> rfl) | (simp [*, errW_none, errW_some] <;> rfl), by repeat (first | (with_reducible first | exact HB.out | apply below_alloc | apply pw_below_drewN | apply below_drew1 | refine below_set ?_ GE101.out) | exact HB.out)⟩
end Go.Proofs.Ytiebfmenkpodeaa.G
