-- Written by this session's driver (wip/tools/printmore.py) over the kit's print, with hand-written parts.
import Derived.Test.YtciepmpadcpkbaaGBase
import Derived.Test.YtciepmpadcpkbaaGF13
import Derived.Test.YtciepmpadcpkbaaGF15
import Derived.Test.YtciepmpadcpkbaaGF14
import Derived.Test.YtciepmpadcpkbaaGF16
import Derived.Test.YtciepmpadcpkbaaGF17
import Derived.Test.YtciepmpadcpkbaaGF18
namespace Go.Proofs.Ytciepmpadcpkbaa.G
open Go.RowKit Go.Proofs.YtciepmpadcpkbaaW.PrintWords Go.Proofs.YtciepmpadcpkbaaW.PrintLast Go.Proofs.YtciepmpadcpkbaaW.PrintMore
attribute [local go_sem] max2_int min2_int max_two min_two max_three min_three max_four min_four   -- for this text's walks alone
set_option linter.unusedVariables false
set_option linter.unusedSimpArgs false

/-! ### dropperlaw02_WireClashes: function 3 -/
def dropperlaw02_WireClashes.f (k : Nat) (l0 : List (S72)) (a1_0 : Int) (a1_1 : Int) (a2_0 : Int) (a2_1 : Int) : Option (Bool) := (dropperlaw02_Large.f k l0 ([] : List (List Int))).bind fun t103 => (if t103 = true then ((dropperlaw02_Awake.f k).bind fun t104 => (some t104)) else ((wire_Clash.f k l0 a1_0 a1_1).bind fun bt105 => ((dropperref02_Clash.f k l0 a1_0 a1_1).bind fun bt108 => ((wire_Clashes.f k l0 a1_0 a1_1 a2_0 a2_1).bind fun bt111 => ((dropperref02_Clashes.f k l0 a1_0 a1_1 a2_0 a2_1).bind fun bt113 => (if bt105.1 = bt108.1 then (if bt105.2.1 = bt108.2.1 then (if bt105.2.2 = bt108.2.2 then (if (bt111.1 == bt113.1) = true then (if bt111.2 = bt113.2 then ((dropperlaw02_Awake.f k).bind fun t115 => (some t115)) else (some false)) else (some false)) else (some false)) else (some false)) else (some false)))))))
theorem dropperlaw02_WireClashes.mono : ∀ a0 a1 a2 a3 a4 k, LeO (dropperlaw02_WireClashes.f k a0 a1 a2 a3 a4) (dropperlaw02_WireClashes.f (k + 1) a0 a1 a2 a3 a4) := by
  intro a0 a1 a2 a3 a4 k
  unfold dropperlaw02_WireClashes.f
  repeat' first
      | (with_reducible exact dropperlaw02_Awake.mono _)
      | (with_reducible exact dropperlaw02_Large.mono _ _ _)
      | (with_reducible exact dropperref02_Clash.mono _ _ _ _)
      | (with_reducible exact dropperref02_Clashes.mono _ _ _ _ _ _)
      | (with_reducible exact wire_Clash.mono _ _ _ _)
      | (with_reducible exact wire_Clashes.mono _ _ _ _ _ _)
      | (with_reducible exact LeO.refl _)
      | (with_reducible exact LeO.none _)
      | (with_reducible refine LeO.ite ?_ ?_)
      | (with_reducible refine LeO.bind ?_ (fun _ => ?_))
      | exact dropperlaw02_Awake.mono _
      | exact dropperlaw02_Large.mono _ _ _
      | exact dropperref02_Clash.mono _ _ _ _
      | exact dropperref02_Clashes.mono _ _ _ _ _ _
      | exact wire_Clash.mono _ _ _ _
      | exact wire_Clashes.mono _ _ _ _ _ _
      | exact LeO.none _
      | refine LeO.ite ?_ ?_
      | refine LeO.bind ?_ (fun _ => ?_)
set_option maxHeartbeats 8000000 in
set_option maxRecDepth 100000 in
theorem dropperlaw02_WireClashes.calls (k : Nat) (A0 : Option Addr) (c0 : Nat) (l0 : List (S72)) (a1_0 : Int) (a1_1 : Int) (a2_0 : Int) (a2_1 : Int) (r : Bool) (w : World) (hr0 : Kd.C k72 w A0 l0.length l0) (hc0 : l0.length ≤ c0) (h : dropperlaw02_WireClashes.f k l0 a1_0 a1_1 a2_0 a2_1 = some r) (hT : r = true) :
    Calls Try.prog 3 #[.slice A0 l0.length c0, .agg #[.int .i64 a1_0, .int .i64 a1_1], .agg #[.int .i64 a2_0, .int .i64 a2_1]] w fun e w' => e = .returned (.bool r) ∧ Below w.heap.size w w' := by
  have hu24 := Try.underlying24
  have hu25 := Try.underlying25
  have HR0 := Aside0.mk hr0
  have HC0 := Aside0.mk hc0
  clear hr0 hc0
  have HB := Aside0.mk (Below.refl w.heap.size w)
  have H : ((dropperlaw02_Large.f k l0 ([] : List (List Int))).bind fun t103 => (if t103 = true then ((dropperlaw02_Awake.f k).bind fun t104 => (some t104)) else ((wire_Clash.f k l0 a1_0 a1_1).bind fun bt105 => ((dropperref02_Clash.f k l0 a1_0 a1_1).bind fun bt108 => ((wire_Clashes.f k l0 a1_0 a1_1 a2_0 a2_1).bind fun bt111 => ((dropperref02_Clashes.f k l0 a1_0 a1_1 a2_0 a2_1).bind fun bt113 => (if bt105.1 = bt108.1 then (if bt105.2.1 = bt108.2.1 then (if bt105.2.2 = bt108.2.2 then (if (bt111.1 == bt113.1) = true then (if bt111.2 = bt113.2 then ((dropperlaw02_Awake.f k).bind fun t115 => (some t115)) else (some false)) else (some false)) else (some false)) else (some false)) else (some false)))))))) = some r := h
  clear h
  replace H := Option.bind_eq_some_iff.mp H
  obtain ⟨t103, A40, H⟩ := H
  replace H : (if t103 = true then ((dropperlaw02_Awake.f k).bind fun t104 => (some t104)) else ((wire_Clash.f k l0 a1_0 a1_1).bind fun bt105 => ((dropperref02_Clash.f k l0 a1_0 a1_1).bind fun bt108 => ((wire_Clashes.f k l0 a1_0 a1_1 a2_0 a2_1).bind fun bt111 => ((dropperref02_Clashes.f k l0 a1_0 a1_1 a2_0 a2_1).bind fun bt113 => (if bt105.1 = bt108.1 then (if bt105.2.1 = bt108.2.1 then (if bt105.2.2 = bt108.2.2 then (if (bt111.1 == bt113.1) = true then (if bt111.2 = bt113.2 then ((dropperlaw02_Awake.f k).bind fun t115 => (some t115)) else (some false)) else (some false)) else (some false)) else (some false)) else (some false))))))) = some r := H
  have A4 := Aside0.mk A40
  clear A40
  by_cases c5 : t103 = true
  · subst c5
    have H1 : ((dropperlaw02_Awake.f k).bind fun t104 => (some t104)) = some r := by rw [if_pos rfl] at H; exact H
    clear H
    have H := H1
    clear H1
    replace H := Option.bind_eq_some_iff.mp H
    obtain ⟨t104, A60, H⟩ := H
    replace H : (some t104) = some r := H
    have A6 := Aside0.mk A60
    clear A60
    clear hT
    obtain rfl := Option.some.inj H
    go_enter Try.func3, Try.ntmps3
    go_wp2_with (first | ((with_reducible refine gate_dst (N := 4) rfl ?_); refine box_event ?hg (N := 4) ?hd (cs := #[.int .i64 a1_0, .int .i64 a1_1]) (t := 24) ?hr ?_; (case hd => rfl); (case hg => rfl); (case hr => first | (go_simp; done) | (go_simp; rfl)); intro gb101 hg w7 hbox hb; have n0_ := Aside0.mk (below_step (by repeat (first | (with_reducible first | exact HB.out | apply below_alloc | apply pw_below_drewN | apply below_drew1) | exact HB.out)) hb); have n1_ := Aside0.mk (hbox); have n2_ := Aside0.mk ((by rw [hg]; exact (below_size (by repeat (first | (with_reducible first | exact HB.out | apply below_alloc | apply pw_below_drewN | apply below_drew1) | exact HB.out))) : w.heap.size ≤ gb101)); have n3_ := Aside0.mk ((by rw [hg]; exact (below_size (by repeat (first | (with_reducible first | exact HB.out | apply below_alloc | apply pw_below_drewN | apply below_drew1) | exact HB.out))) : w.heap.size ≤ gb101)); clear HB; have HB := n0_; have BK101 := n1_; have GW101 := n2_; have GE101 := n3_; clear n0_ n1_ n2_ n3_; clear hb hbox hg) | ((with_reducible refine gate_dst (N := 5) rfl ?_); refine box_event ?hg (N := 5) ?hd (cs := #[.int .i64 a2_0, .int .i64 a2_1]) (t := 25) ?hr ?_; (case hd => rfl); (case hg => rfl); (case hr => first | (go_simp; done) | (go_simp; rfl)); intro gb102 hg w8 hbox hb; have n0_ := Aside0.mk (bkB BK101 hb); have n1_ := Aside0.mk (below_step (by repeat (first | (with_reducible first | exact HB.out | apply below_alloc | apply pw_below_drewN | apply below_drew1 | refine below_set ?_ GE101.out) | exact HB.out)) hb); have n2_ := Aside0.mk (hbox); have n3_ := Aside0.mk ((by rw [hg]; exact (below_size (by repeat (first | (with_reducible first | exact HB.out | apply below_alloc | apply pw_below_drewN | apply below_drew1 | refine below_set ?_ GE101.out) | exact HB.out))) : w.heap.size ≤ gb102)); have n4_ := Aside0.mk ((by rw [hg]; exact (below_size (by repeat (first | (with_reducible first | exact HB.out | apply below_alloc | apply pw_below_drewN | apply below_drew1 | refine below_set ?_ GE101.out) | exact HB.out))) : w.heap.size ≤ gb102)); have n5_ := Aside0.mk ((bkL BK101 hg : gb101 ≠ gb102)); have n6_ := Aside0.mk ((bkG BK101 hg : gb102 ≠ gb101)); clear BK101; clear HB; have BK101 := n0_; have HB := n1_; have BK102 := n2_; have GW102 := n3_; have GE102 := n4_; have NB101_102 := n5_; have NB102_101 := n6_; clear n0_ n1_ n2_ n3_ n4_ n5_ n6_; clear hb hbox hg) | ((with_reducible refine gate_callee (f := 13) rfl ?_); refine goesL_ (some 18) rfl rfl Try.func13 (by kernel_rfl) rfl #[.slice A0 l0.length c0, .slice none 0 0] rfl (by (try simp only [List.map_toArray, List.map_cons, List.map_nil]); first | done | rfl | (simp only [List.length_drop, List.length_take]; rfl)) ?_; (refine (dropperlaw02_Large.calls k _ _ l0 _ _ ([] : List (List Int)) true _ ?side1 ?side2 ?side3 ?side4 A4.out).mono ?_); (case side1 => repeat (first | exact (Kd.C_below HR0.out HB.out) | (with_reducible refine Kd.C_alloc ?_ _) | (with_reducible refine Kd.C_drewN ?_ _) | (with_reducible refine Kd.C_drew ?_))); (case side2 => exact HC0.out); (case side3 => exact Kd.C_nil _ _); (case side4 => exact Nat.le_refl _); rintro e w' ⟨rfl, ⟨nd, rfl⟩⟩; refine ⟨_, rfl, ?_⟩) | ((with_reducible refine gate_callee (f := 14) rfl ?_); refine goesL_ (some 19) rfl rfl Try.func14 (by kernel_rfl) rfl #[] rfl (by (try simp only [List.map_toArray, List.map_cons, List.map_nil]); first | done | rfl | (simp only [List.length_drop, List.length_take]; rfl)) ?_; (with_reducible refine (dropperlaw02_Awake.calls k  t104 _ A6.out).mono ?_); rintro e w9 ⟨rfl, hb⟩; refine ⟨_, rfl, ?_⟩; have n0_ := Aside0.mk (bkB BK101 hb); have n1_ := Aside0.mk (bkB BK102 hb); have n2_ := Aside0.mk (below_step (by repeat (first | (with_reducible first | exact HB.out | apply below_alloc | apply pw_below_drewN | apply below_drew1 | refine below_set ?_ GE101.out | refine below_set ?_ GE102.out) | exact HB.out)) hb); clear BK101; clear BK102; clear HB; have BK101 := n0_; have BK102 := n1_; have HB := n2_; clear n0_ n1_ n2_; (try clear hb); (try clear hb2); (try clear hk); (try clear hi)))
    go_ret
    exact ⟨by first | rfl | (simp [errW_none, errW_some] <;> rfl) | (simp [*, errW_none, errW_some] <;> rfl), by repeat (first | (with_reducible first | exact HB.out | apply below_alloc | apply pw_below_drewN | apply below_drew1 | refine below_set ?_ GE101.out | refine below_set ?_ GE102.out) | exact HB.out)⟩
  replace c5 := Bool.eq_false_iff.mpr c5
  subst c5
  have H1 : ((wire_Clash.f k l0 a1_0 a1_1).bind fun bt105 => ((dropperref02_Clash.f k l0 a1_0 a1_1).bind fun bt108 => ((wire_Clashes.f k l0 a1_0 a1_1 a2_0 a2_1).bind fun bt111 => ((dropperref02_Clashes.f k l0 a1_0 a1_1 a2_0 a2_1).bind fun bt113 => (if bt105.1 = bt108.1 then (if bt105.2.1 = bt108.2.1 then (if bt105.2.2 = bt108.2.2 then (if (bt111.1 == bt113.1) = true then (if bt111.2 = bt113.2 then ((dropperlaw02_Awake.f k).bind fun t115 => (some t115)) else (some false)) else (some false)) else (some false)) else (some false)) else (some false)))))) = some r := by rw [if_neg (show ¬ (false = true) by decide)] at H; exact H
  clear H
  have H := H1
  clear H1
  replace H := Option.bind_eq_some_iff.mp H
  obtain ⟨⟨t105, t106, t107⟩, A100, H⟩ := H
  replace H : ((dropperref02_Clash.f k l0 a1_0 a1_1).bind fun bt108 => ((wire_Clashes.f k l0 a1_0 a1_1 a2_0 a2_1).bind fun bt111 => ((dropperref02_Clashes.f k l0 a1_0 a1_1 a2_0 a2_1).bind fun bt113 => (if t105 = bt108.1 then (if t106 = bt108.2.1 then (if t107 = bt108.2.2 then (if (bt111.1 == bt113.1) = true then (if bt111.2 = bt113.2 then ((dropperlaw02_Awake.f k).bind fun t115 => (some t115)) else (some false)) else (some false)) else (some false)) else (some false)) else (some false))))) = some r := H
  have A10 := Aside0.mk A100
  clear A100
  replace H := Option.bind_eq_some_iff.mp H
  obtain ⟨⟨t108, t109, t110⟩, A110, H⟩ := H
  replace H : ((wire_Clashes.f k l0 a1_0 a1_1 a2_0 a2_1).bind fun bt111 => ((dropperref02_Clashes.f k l0 a1_0 a1_1 a2_0 a2_1).bind fun bt113 => (if t105 = t108 then (if t106 = t109 then (if t107 = t110 then (if (bt111.1 == bt113.1) = true then (if bt111.2 = bt113.2 then ((dropperlaw02_Awake.f k).bind fun t115 => (some t115)) else (some false)) else (some false)) else (some false)) else (some false)) else (some false)))) = some r := H
  have A11 := Aside0.mk A110
  clear A110
  replace H := Option.bind_eq_some_iff.mp H
  obtain ⟨⟨t111, t112⟩, A120, H⟩ := H
  replace H : ((dropperref02_Clashes.f k l0 a1_0 a1_1 a2_0 a2_1).bind fun bt113 => (if t105 = t108 then (if t106 = t109 then (if t107 = t110 then (if (t111 == bt113.1) = true then (if t112 = bt113.2 then ((dropperlaw02_Awake.f k).bind fun t115 => (some t115)) else (some false)) else (some false)) else (some false)) else (some false)) else (some false))) = some r := H
  have A12 := Aside0.mk A120
  clear A120
  replace H := Option.bind_eq_some_iff.mp H
  obtain ⟨⟨t113, t114⟩, A130, H⟩ := H
  replace H : (if t105 = t108 then (if t106 = t109 then (if t107 = t110 then (if (t111 == t113) = true then (if t112 = t114 then ((dropperlaw02_Awake.f k).bind fun t115 => (some t115)) else (some false)) else (some false)) else (some false)) else (some false)) else (some false)) = some r := H
  have A13 := Aside0.mk A130
  clear A130
  by_cases c14 : t105 = t108
  rotate_left
  · rw [if_neg c14] at H
    have c14b0 : (t105 == t108) = false := beq_eq_false_iff_ne.mpr c14
    have c14b1 : (t105 != t108) = true := bne_iff_ne.mpr c14
    exact absurd (hT.symm.trans (Option.some.inj H).symm) (by decide)

  rw [if_pos c14] at H
  have c14b0 : (t105 == t108) = true := beq_iff_eq.mpr c14
  have c14b1 : (t105 != t108) = false := bne_eq_false_iff_eq.mpr c14
  clear c14
  by_cases c15 : t106 = t109
  rotate_left
  · rw [if_neg c15] at H
    have c15b0 : (t106 == t109) = false := beq_eq_false_iff_ne.mpr c15
    have c15b1 : (t106 != t109) = true := bne_iff_ne.mpr c15
    exact absurd (hT.symm.trans (Option.some.inj H).symm) (by decide)
  rw [if_pos c15] at H
  have c15b0 : (t106 == t109) = true := beq_iff_eq.mpr c15
  have c15b1 : (t106 != t109) = false := bne_eq_false_iff_eq.mpr c15
  clear c15
  by_cases c16 : t107 = t110
  rotate_left
  · rw [if_neg c16] at H
    have c16b0 : (t107 == t110) = false := beq_eq_false_iff_ne.mpr c16
    have c16b1 : (t107 != t110) = true := bne_iff_ne.mpr c16
    exact absurd (hT.symm.trans (Option.some.inj H).symm) (by decide)
  rw [if_pos c16] at H
  have c16b0 : (t107 == t110) = true := beq_iff_eq.mpr c16
  have c16b1 : (t107 != t110) = false := bne_eq_false_iff_eq.mpr c16
  clear c16
  by_cases c17 : (t111 == t113) = true
  rotate_left
  · rw [if_neg c17] at H
    have c17b0 : (t111 == t113) = false := by simpa using c17
    (try (have c17b1 : decide (t111 = t113) = false := by simpa using c17))
    (try (have c17b2 : (t111 == t113) = false := by simpa using c17))
    (try (have c17b3 : ¬ (t111 = t113) := by simpa using c17))
    clear c17
    exact absurd (hT.symm.trans (Option.some.inj H).symm) (by decide)
  rw [if_pos c17] at H
  have c17b0 : (t111 == t113) = true := c17
  (try (have c17b1 : decide (t111 = t113) = true := by simpa using c17))
  (try (have c17b2 : (t111 == t113) = true := by simpa using c17))
  clear c17
  by_cases c18 : t112 = t114
  rotate_left
  · rw [if_neg c18] at H
    have c18b0 : (t112 == t114) = false := beq_eq_false_iff_ne.mpr c18
    have c18b1 : (t112 != t114) = true := bne_iff_ne.mpr c18
    exact absurd (hT.symm.trans (Option.some.inj H).symm) (by decide)
  rw [if_pos c18] at H
  have c18b0 : (t112 == t114) = true := beq_iff_eq.mpr c18
  have c18b1 : (t112 != t114) = false := bne_eq_false_iff_eq.mpr c18
  clear c18
  replace H := Option.bind_eq_some_iff.mp H
  obtain ⟨t115, A190, H⟩ := H
  replace H : (some t115) = some r := H
  have A19 := Aside0.mk A190
  clear A190
  clear hT
  obtain rfl := Option.some.inj H
  go_enter Try.func3, Try.ntmps3
  go_wp2_with (first | ((with_reducible refine gate_dst (N := 4) rfl ?_); refine box_event ?hg (N := 4) ?hd (cs := #[.int .i64 a1_0, .int .i64 a1_1]) (t := 24) ?hr ?_; (case hd => rfl); (case hg => rfl); (case hr => first | (go_simp; done) | (go_simp; rfl)); intro gb101 hg w20 hbox hb; have n0_ := Aside0.mk (below_step (by repeat (first | (with_reducible first | exact HB.out | apply below_alloc | apply pw_below_drewN | apply below_drew1) | exact HB.out)) hb); have n1_ := Aside0.mk (hbox); have n2_ := Aside0.mk ((by rw [hg]; exact (below_size (by repeat (first | (with_reducible first | exact HB.out | apply below_alloc | apply pw_below_drewN | apply below_drew1) | exact HB.out))) : w.heap.size ≤ gb101)); have n3_ := Aside0.mk ((by rw [hg]; exact (below_size (by repeat (first | (with_reducible first | exact HB.out | apply below_alloc | apply pw_below_drewN | apply below_drew1) | exact HB.out))) : w.heap.size ≤ gb101)); clear HB; have HB := n0_; have BK101 := n1_; have GW101 := n2_; have GE101 := n3_; clear n0_ n1_ n2_ n3_; clear hb hbox hg) | ((with_reducible refine gate_dst (N := 5) rfl ?_); refine box_event ?hg (N := 5) ?hd (cs := #[.int .i64 a2_0, .int .i64 a2_1]) (t := 25) ?hr ?_; (case hd => rfl); (case hg => rfl); (case hr => first | (go_simp; done) | (go_simp; rfl)); intro gb102 hg w21 hbox hb; have n0_ := Aside0.mk (bkB BK101 hb); have n1_ := Aside0.mk (below_step (by repeat (first | (with_reducible first | exact HB.out | apply below_alloc | apply pw_below_drewN | apply below_drew1 | refine below_set ?_ GE101.out) | exact HB.out)) hb); have n2_ := Aside0.mk (hbox); have n3_ := Aside0.mk ((by rw [hg]; exact (below_size (by repeat (first | (with_reducible first | exact HB.out | apply below_alloc | apply pw_below_drewN | apply below_drew1 | refine below_set ?_ GE101.out) | exact HB.out))) : w.heap.size ≤ gb102)); have n4_ := Aside0.mk ((by rw [hg]; exact (below_size (by repeat (first | (with_reducible first | exact HB.out | apply below_alloc | apply pw_below_drewN | apply below_drew1 | refine below_set ?_ GE101.out) | exact HB.out))) : w.heap.size ≤ gb102)); have n5_ := Aside0.mk ((bkL BK101 hg : gb101 ≠ gb102)); have n6_ := Aside0.mk ((bkG BK101 hg : gb102 ≠ gb101)); clear BK101; clear HB; have BK101 := n0_; have HB := n1_; have BK102 := n2_; have GW102 := n3_; have GE102 := n4_; have NB101_102 := n5_; have NB102_101 := n6_; clear n0_ n1_ n2_ n3_ n4_ n5_ n6_; clear hb hbox hg) | ((with_reducible refine gate_callee (f := 13) rfl ?_); refine goesL_ (some 18) rfl rfl Try.func13 (by kernel_rfl) rfl #[.slice A0 l0.length c0, .slice none 0 0] rfl (by (try simp only [List.map_toArray, List.map_cons, List.map_nil]); first | done | rfl | (simp only [List.length_drop, List.length_take]; rfl)) ?_; (refine (dropperlaw02_Large.calls k _ _ l0 _ _ ([] : List (List Int)) false _ ?side1 ?side2 ?side3 ?side4 A4.out).mono ?_); (case side1 => repeat (first | exact (Kd.C_below HR0.out HB.out) | (with_reducible refine Kd.C_alloc ?_ _) | (with_reducible refine Kd.C_drewN ?_ _) | (with_reducible refine Kd.C_drew ?_))); (case side2 => exact HC0.out); (case side3 => exact Kd.C_nil _ _); (case side4 => exact Nat.le_refl _); rintro e w' ⟨rfl, ⟨nd, rfl⟩⟩; refine ⟨_, rfl, ?_⟩; have hnb22 := NB101_102.out; have hnc22 := NB102_101.out; have hcz23_0 : w21.cell? ⟨gb101, 0, none⟩ = some (.int .i64 a1_0) := (blk_cell BK101.out 0).trans rfl; have hcz23_1 : w21.cell? ⟨gb101, 1, none⟩ = some (.int .i64 a1_1) := (blk_cell BK101.out 1).trans rfl; have hfz23_0 := blk_frozen BK101.out 0; have hfz23_1 := blk_frozen BK101.out 1) | ((with_reducible refine gate_callee (f := 15) rfl ?_); refine goesL_ (some 26) rfl rfl Try.func15 (by kernel_rfl) rfl #[.slice A0 l0.length c0, .int .i64 a1_0, .int .i64 a1_1] rfl (by (try simp only [List.map_toArray, List.map_cons, List.map_nil]); first | done | rfl | (simp only [List.length_drop, List.length_take]; rfl)) ?_; (with_reducible refine (wire_Clash.calls k _ _ l0 a1_0 a1_1 t105 t106 t107 _ ?side1 ?side2 A10.out).mono ?_); (case side1 => repeat (first | exact (Kd.C_below HR0.out (by repeat (first | (with_reducible first | exact HB.out | apply below_alloc | apply pw_below_drewN | apply below_drew1 | refine below_set ?_ GE101.out | refine below_set ?_ GE102.out) | exact HB.out))) | (with_reducible refine Kd.C_alloc ?_ _) | (with_reducible refine Kd.C_drewN ?_ _) | (with_reducible refine Kd.C_drew ?_))); (case side2 => exact HC0.out); rintro e w24 ⟨rfl, hb⟩; refine ⟨_, rfl, ?_⟩; have n0_ := Aside0.mk (bkB BK101 hb); have n1_ := Aside0.mk (bkB BK102 hb); have n2_ := Aside0.mk (below_step (by repeat (first | (with_reducible first | exact HB.out | apply below_alloc | apply pw_below_drewN | apply below_drew1 | refine below_set ?_ GE101.out | refine below_set ?_ GE102.out) | exact HB.out)) hb); clear BK101; clear BK102; clear HB; have BK101 := n0_; have BK102 := n1_; have HB := n2_; clear n0_ n1_ n2_; (try clear hb); (try clear hb2); (try clear hk); (try clear hi); have hcz25_0 : w24.cell? ⟨gb101, 0, none⟩ = some (.int .i64 a1_0) := (blk_cell BK101.out 0).trans rfl; have hcz25_1 : w24.cell? ⟨gb101, 1, none⟩ = some (.int .i64 a1_1) := (blk_cell BK101.out 1).trans rfl; have hfz25_0 := blk_frozen BK101.out 0; have hfz25_1 := blk_frozen BK101.out 1) | ((with_reducible refine gate_callee (f := 16) rfl ?_); refine goesL_ (some 36) rfl rfl Try.func16 (by kernel_rfl) rfl #[.slice A0 l0.length c0, .int .i64 a1_0, .int .i64 a1_1] rfl (by (try simp only [List.map_toArray, List.map_cons, List.map_nil]); first | done | rfl | (simp only [List.length_drop, List.length_take]; rfl)) ?_; (with_reducible refine (dropperref02_Clash.calls k _ _ l0 a1_0 a1_1 t108 t109 t110 _ ?side1 ?side2 A11.out).mono ?_); (case side1 => repeat (first | exact (Kd.C_below HR0.out HB.out) | (with_reducible refine Kd.C_alloc ?_ _) | (with_reducible refine Kd.C_drewN ?_ _) | (with_reducible refine Kd.C_drew ?_))); (case side2 => exact HC0.out); rintro e w26 ⟨rfl, hb⟩; refine ⟨_, rfl, ?_⟩; have n0_ := Aside0.mk (bkB BK101 hb); have n1_ := Aside0.mk (bkB BK102 hb); have n2_ := Aside0.mk (below_step (by repeat (first | (with_reducible first | exact HB.out | apply below_alloc | apply pw_below_drewN | apply below_drew1 | refine below_set ?_ GE101.out | refine below_set ?_ GE102.out) | exact HB.out)) hb); clear BK101; clear BK102; clear HB; have BK101 := n0_; have BK102 := n1_; have HB := n2_; clear n0_ n1_ n2_; (try clear hb); (try clear hb2); (try clear hk); (try clear hi); have hcz27_0 : w26.cell? ⟨gb101, 0, none⟩ = some (.int .i64 a1_0) := (blk_cell BK101.out 0).trans rfl; have hcz27_1 : w26.cell? ⟨gb101, 1, none⟩ = some (.int .i64 a1_1) := (blk_cell BK101.out 1).trans rfl; have hfz27_0 := blk_frozen BK101.out 0; have hfz27_1 := blk_frozen BK101.out 1; have hcz28_0 : w26.cell? ⟨gb102, 0, none⟩ = some (.int .i64 a2_0) := (blk_cell BK102.out 0).trans rfl; have hcz28_1 : w26.cell? ⟨gb102, 1, none⟩ = some (.int .i64 a2_1) := (blk_cell BK102.out 1).trans rfl; have hfz28_0 := blk_frozen BK102.out 0; have hfz28_1 := blk_frozen BK102.out 1) | ((with_reducible refine gate_callee (f := 17) rfl ?_); refine goesL_ (some 50) rfl rfl Try.func17 (by kernel_rfl) rfl #[.slice A0 l0.length c0, .int .i64 a1_0, .int .i64 a1_1, .int .i64 a2_0, .int .i64 a2_1] rfl (by (try simp only [List.map_toArray, List.map_cons, List.map_nil]); first | done | rfl | (simp only [List.length_drop, List.length_take]; rfl)) ?_; (with_reducible refine (wire_Clashes.calls k _ _ l0 a1_0 a1_1 a2_0 a2_1 t111 t112 _ ?side1 ?side2 A12.out).mono ?_); (case side1 => repeat (first | exact (Kd.C_below HR0.out HB.out) | (with_reducible refine Kd.C_alloc ?_ _) | (with_reducible refine Kd.C_drewN ?_ _) | (with_reducible refine Kd.C_drew ?_))); (case side2 => exact HC0.out); rintro e w29 ⟨rfl, hb⟩; refine ⟨_, rfl, ?_⟩; have n0_ := Aside0.mk (bkB BK101 hb); have n1_ := Aside0.mk (bkB BK102 hb); have n2_ := Aside0.mk (below_step (by repeat (first | (with_reducible first | exact HB.out | apply below_alloc | apply pw_below_drewN | apply below_drew1 | refine below_set ?_ GE101.out | refine below_set ?_ GE102.out) | exact HB.out)) hb); clear BK101; clear BK102; clear HB; have BK101 := n0_; have BK102 := n1_; have HB := n2_; clear n0_ n1_ n2_; (try clear hb); (try clear hb2); (try clear hk); (try clear hi); have hcz30_0 : w29.cell? ⟨gb101, 0, none⟩ = some (.int .i64 a1_0) := (blk_cell BK101.out 0).trans rfl; have hcz30_1 : w29.cell? ⟨gb101, 1, none⟩ = some (.int .i64 a1_1) := (blk_cell BK101.out 1).trans rfl; have hfz30_0 := blk_frozen BK101.out 0; have hfz30_1 := blk_frozen BK101.out 1; have hcz31_0 : w29.cell? ⟨gb102, 0, none⟩ = some (.int .i64 a2_0) := (blk_cell BK102.out 0).trans rfl; have hcz31_1 : w29.cell? ⟨gb102, 1, none⟩ = some (.int .i64 a2_1) := (blk_cell BK102.out 1).trans rfl; have hfz31_0 := blk_frozen BK102.out 0; have hfz31_1 := blk_frozen BK102.out 1) | ((with_reducible refine gate_callee (f := 18) rfl ?_); refine goesL_ (some 63) rfl rfl Try.func18 (by kernel_rfl) rfl #[.slice A0 l0.length c0, .int .i64 a1_0, .int .i64 a1_1, .int .i64 a2_0, .int .i64 a2_1] rfl (by (try simp only [List.map_toArray, List.map_cons, List.map_nil]); first | done | rfl | (simp only [List.length_drop, List.length_take]; rfl)) ?_; (with_reducible refine (dropperref02_Clashes.calls k _ _ l0 a1_0 a1_1 a2_0 a2_1 t113 t114 _ ?side1 ?side2 A13.out).mono ?_); (case side1 => repeat (first | exact (Kd.C_below HR0.out HB.out) | (with_reducible refine Kd.C_alloc ?_ _) | (with_reducible refine Kd.C_drewN ?_ _) | (with_reducible refine Kd.C_drew ?_))); (case side2 => exact HC0.out); rintro e w32 ⟨rfl, hb⟩; refine ⟨_, rfl, ?_⟩; have n0_ := Aside0.mk (bkB BK101 hb); have n1_ := Aside0.mk (bkB BK102 hb); have n2_ := Aside0.mk (below_step (by repeat (first | (with_reducible first | exact HB.out | apply below_alloc | apply pw_below_drewN | apply below_drew1 | refine below_set ?_ GE101.out | refine below_set ?_ GE102.out) | exact HB.out)) hb); clear BK101; clear BK102; clear HB; have BK101 := n0_; have BK102 := n1_; have HB := n2_; clear n0_ n1_ n2_; (try clear hb); (try clear hb2); (try clear hk); (try clear hi)) | (go_at_call 14; (with_reducible refine (dropperlaw02_Awake.calls k  t115 _ A19.out).mono ?_); rintro e w33 ⟨rfl, hb⟩; have n0_ := Aside0.mk (bkB BK101 hb); have n1_ := Aside0.mk (bkB BK102 hb); have n2_ := Aside0.mk (below_step (by repeat (first | (with_reducible first | exact HB.out | apply below_alloc | apply pw_below_drewN | apply below_drew1 | refine below_set ?_ GE101.out | refine below_set ?_ GE102.out) | exact HB.out)) hb); clear BK101; clear BK102; clear HB; have BK101 := n0_; have BK102 := n1_; have HB := n2_; clear n0_ n1_ n2_; (try clear hb); (try clear hb2); (try clear hk); (try clear hi)))
  go_ret
  exact ⟨by first | rfl | (simp [errW_none, errW_some] <;> rfl) | (simp [*, errW_none, errW_some] <;> rfl), by repeat (first | (with_reducible first | exact HB.out | apply below_alloc | apply pw_below_drewN | apply below_drew1 | refine below_set ?_ GE101.out | refine below_set ?_ GE102.out) | exact HB.out)⟩
end Go.Proofs.Ytciepmpadcpkbaa.G
