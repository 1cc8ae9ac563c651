-- Written by this session's driver (wip/tools/printmore.py) over the kit's print, with hand-written parts.
import Derived.Test.YthbpibdfookbmaaGBase
import Derived.Test.YthbpibdfookbmaaGF50
import Derived.Test.YthbpibdfookbmaaGF53
import Derived.Test.YthbpibdfookbmaaGF61
import Derived.Test.YthbpibdfookbmaaGF73
import Derived.Test.YthbpibdfookbmaaGF74
namespace Go.Proofs.Ythbpibdfookbmaa.G
open Go.RowKit Go.Proofs.YthbpibdfookbmaaW.PrintWords Go.Proofs.YthbpibdfookbmaaW.PrintLast Go.Proofs.YthbpibdfookbmaaW.PrintMore
attribute [local go_sem] max2_int min2_int max_two min_two max_three min_three max_four min_four   -- for this text's walks alone
set_option linter.unusedVariables false
set_option linter.unusedSimpArgs false

/-! ### ice_Tonight: function 35 -/
def ice_Tonight.f (k : Nat) (l0 : List Int) (l1 : List Int) (a2 : Int) : Option (List Int × Int) := (ice_open.f k l0 l1).bind fun bt101 => (if bt101.2.2.2.2 = 0 then ((ice_within.f (-1) a2 (wrap64 ((l0.length : Int) - 1))).bind fun t107 => (if t107 = true then ((ice_game_tonight.f k bt101.1 bt101.2.1 bt101.2.2.1 bt101.2.2.2.1 a2).bind fun bt108 => (if bt108.1 = (-1) then (some (([] : List Int), 5)) else ((ice_game_list.f k bt101.1 bt101.2.1 bt108.2 bt108.1).bind fun bt110 => (some (bt110.1, 0))))) else (some (([] : List Int), 2)))) else (some (([] : List Int), bt101.2.2.2.2)))
theorem ice_Tonight.mono : ∀ a0 a1 a2 k, LeO (ice_Tonight.f k a0 a1 a2) (ice_Tonight.f (k + 1) a0 a1 a2) := by
  intro a0 a1 a2 k
  unfold ice_Tonight.f
  repeat' first
      | (with_reducible exact ice_game_list.mono _ _ _ _ _)
      | (with_reducible exact ice_game_tonight.mono _ _ _ _ _ _)
      | (with_reducible exact ice_open.mono _ _ _)
      | (with_reducible exact LeO.refl _)
      | (with_reducible exact LeO.none _)
      | (with_reducible refine LeO.ite ?_ ?_)
      | (with_reducible refine LeO.bind ?_ (fun _ => ?_))
      | exact ice_game_list.mono _ _ _ _ _
      | exact ice_game_tonight.mono _ _ _ _ _ _
      | exact ice_open.mono _ _ _
      | exact LeO.none _
      | refine LeO.ite ?_ ?_
      | refine LeO.bind ?_ (fun _ => ?_)
set_option maxHeartbeats 8000000 in
set_option maxRecDepth 100000 in
theorem ice_Tonight.calls (k : Nat) (A0 : Option Addr) (c0 : Nat) (l0 : List Int) (A1 : Option Addr) (c1 : Nat) (l1 : List Int) (a2 : Int) (r1 : List Int) (r2 : Int) (w : World) (hr0 : Kd.C (Kd.int .i64) w A0 l0.length l0) (hc0 : l0.length ≤ c0) (hr1 : Kd.C (Kd.int .i64) w A1 l1.length l1) (hc1 : l1.length ≤ c1) (h : ice_Tonight.f k l0 l1 a2 = some (r1, r2)) :
    Calls Try.prog 35 #[.slice A0 l0.length c0, .slice A1 l1.length c1, .int .i64 a2] w fun e w' => ∃ v0_ : Value, e = .returned (.tuple #[v0_, .int .i64 r2]) ∧ Kd.R (Kd.int .i64) 3 w' w.heap.size (fun _ => True) v0_ r1 ∧ Below w.heap.size w w' := by
  have HR0 := Aside0.mk hr0
  have HC0 := Aside0.mk hc0
  clear hr0 hc0
  have HR1 := Aside0.mk hr1
  have HC1 := Aside0.mk hc1
  clear hr1 hc1
  have HB := Aside0.mk (Below.refl w.heap.size w)
  have HB00 := Aside0.mk (Below.refl w.heap.size w)
  have H : ((ice_open.f k l0 l1).bind fun bt101 => (if bt101.2.2.2.2 = 0 then ((ice_within.f (-1) a2 (wrap64 ((l0.length : Int) - 1))).bind fun t107 => (if t107 = true then ((ice_game_tonight.f k bt101.1 bt101.2.1 bt101.2.2.1 bt101.2.2.2.1 a2).bind fun bt108 => (if bt108.1 = (-1) then (some (([] : List Int), 5)) else ((ice_game_list.f k bt101.1 bt101.2.1 bt108.2 bt108.1).bind fun bt110 => (some (bt110.1, 0))))) else (some (([] : List Int), 2)))) else (some (([] : List Int), bt101.2.2.2.2)))) = some (r1, r2) := h
  clear h
  replace H := Option.bind_eq_some_iff.mp H
  obtain ⟨⟨t101, t102, t103, t104, t105⟩, A40, H⟩ := H
  replace H : (if t105 = 0 then ((ice_within.f (-1) a2 (wrap64 ((l0.length : Int) - 1))).bind fun t107 => (if t107 = true then ((ice_game_tonight.f k t101 t102 t103 t104 a2).bind fun bt108 => (if bt108.1 = (-1) then (some (([] : List Int), 5)) else ((ice_game_list.f k t101 t102 bt108.2 bt108.1).bind fun bt110 => (some (bt110.1, 0))))) else (some (([] : List Int), 2)))) else (some (([] : List Int), t105))) = some (r1, r2) := H
  have A4 := Aside0.mk A40
  clear A40
  by_cases c5 : t105 = 0
  rotate_left
  · rw [if_neg c5] at H
    have c5b0 : (t105 == 0) = false := beq_eq_false_iff_ne.mpr c5
    have c5b1 : (t105 != 0) = true := bne_iff_ne.mpr c5
    have NE106 := Aside0.mk (show ¬ (t105 = 0) from by first | assumption | exact beq_eq_false_iff_ne.mp (by assumption))
    simp only [Option.some.injEq, Prod.mk.injEq] at H
    obtain ⟨rfl, rfl⟩ := H
    go_enter Try.func35, Try.ntmps35
    go_wp2_with (first | ((with_reducible refine gate_callee (f := 73) rfl ?_); refine goesL_ (some 15) rfl rfl Try.func73 (by kernel_rfl) rfl #[.slice A0 l0.length c0, .slice A1 l1.length c1] rfl (by (try simp only [List.map_toArray, List.map_cons, List.map_nil]); first | done | rfl | (simp only [List.length_drop, List.length_take]; rfl)) ?_; (with_reducible refine (ice_open.calls_err k _ _ l0 _ _ l1 t101 t102 t103 t104 t105 _ ?side1 ?side2 ?side3 ?side4 A4.out NE106.out).mono ?_); (case side1 => repeat (first | exact HR0.out | (with_reducible refine Kd.C_alloc ?_ _) | (with_reducible refine Kd.C_drewN ?_ _) | (with_reducible refine Kd.C_drew ?_))); (case side2 => exact HC0.out); (case side3 => repeat (first | exact HR1.out | (with_reducible refine Kd.C_alloc ?_ _) | (with_reducible refine Kd.C_drewN ?_ _) | (with_reducible refine Kd.C_drew ?_))); (case side4 => exact HC1.out); rintro e w17 ⟨rfl, hb⟩; refine ⟨_, rfl, ?_⟩; have n0_ := Aside0.mk (below_step (by repeat (first | (with_reducible first | exact HB.out | apply below_alloc | apply pw_below_drewN | apply below_drew1) | exact HB.out)) hb); clear HB; have HB := n0_; clear n0_; (try clear hb); (try clear hb2); (try clear hk); (try clear hi)))
    go_ret2
    exact ⟨_, by first | rfl | (simp [errW_none, errW_some] <;> rfl) | (simp [*, errW_none, errW_some] <;> rfl), by first | exact Kd.R_nil _ _ _ _ _ | exact Kd.N_nil _ _ _ _ _ | exact Kd.V_nil _ _ _ _ _ | exact Kd.Q_nil _ _ _ _ _ | exact Kd.S_nil _ _ _ _ _, below_step HB00.out (by repeat (first | (with_reducible first | exact HB.out | apply below_alloc | apply pw_below_drewN | apply below_drew1) | exact HB.out))⟩

  rw [if_pos c5] at H
  have c5b0 : (t105 == 0) = true := beq_iff_eq.mpr c5
  have c5b1 : (t105 != 0) = false := bne_eq_false_iff_eq.mpr c5
  clear c5
  have NE106 := Aside0.mk (show t105 = 0 from by first | assumption | rfl | exact beq_iff_eq.mp (by assumption))
  replace H := Option.bind_eq_some_iff.mp H
  obtain ⟨t107, A60, H⟩ := H
  replace H : (if t107 = true then ((ice_game_tonight.f k t101 t102 t103 t104 a2).bind fun bt108 => (if bt108.1 = (-1) then (some (([] : List Int), 5)) else ((ice_game_list.f k t101 t102 bt108.2 bt108.1).bind fun bt110 => (some (bt110.1, 0))))) else (some (([] : List Int), 2))) = some (r1, r2) := H
  have A6 := Aside0.mk A60
  clear A60
  by_cases c7 : t107 = true
  rotate_left
  · replace c7 := Bool.eq_false_iff.mpr c7
    subst c7
    have H1 : (some (([] : List Int), 2)) = some (r1, r2) := by rw [if_neg (show ¬ (false = true) by decide)] at H; exact H
    clear H
    have H := H1
    clear H1
    simp only [Option.some.injEq, Prod.mk.injEq] at H
    obtain ⟨rfl, rfl⟩ := H
    go_enter Try.func35, Try.ntmps35
    go_wp2_with (first | ((with_reducible refine gate_callee (f := 73) rfl ?_); refine goesL_ (some 15) rfl rfl Try.func73 (by kernel_rfl) rfl #[.slice A0 l0.length c0, .slice A1 l1.length c1] rfl (by (try simp only [List.map_toArray, List.map_cons, List.map_nil]); first | done | rfl | (simp only [List.length_drop, List.length_take]; rfl)) ?_; (with_reducible refine (ice_open.calls_ok k _ _ l0 _ _ l1 t101 t102 t103 t104 t105 w _ ?side1 ?side2 ?side3 ?side4 ?side5 A4.out NE106.out).mono ?_); (case side1 => repeat (first | (with_reducible first | exact HB.out | apply below_alloc | apply pw_below_drewN | apply below_drew1) | exact HB.out)); (case side2 => exact HR0.out); (case side3 => exact HC0.out); (case side4 => exact HR1.out); (case side5 => exact HC1.out); rintro e w ⟨g106, rfl, hi, hb, hb2⟩; refine ⟨_, rfl, ?_⟩; have n0_ := Aside0.mk (hb); have n1_ := Aside0.mk (hi); clear HB; have HB := n0_; have HI106 := n1_; clear n0_ n1_; have HB00_ := Aside0.mk (below_step HB00.out HB.out); have n_ := Aside0.mk (Kd.C_below HR0.out HB.out); clear HR0; have HR0 := n_; clear n_; have n_ := Aside0.mk (Kd.C_below HR1.out HB.out); clear HR1; have HR1 := n_; clear n_; clear HB00 HB; have HB00 := HB00_; clear HB00_; have HB := Aside0.mk (Below.refl w.heap.size w); (try clear hb); (try clear hb2); (try clear hk); (try clear hi)) | ((with_reducible refine gate_callee (f := 50) rfl ?_); refine goesL_ (some 28) rfl rfl Try.func50 (by kernel_rfl) rfl #[.int .i64 (-1), .int .i64 a2, .int .i64 (wrap64 ((l0.length : Int) - 1))] rfl (by (try simp only [List.map_toArray, List.map_cons, List.map_nil]); first | done | rfl | (simp only [List.length_drop, List.length_take]; rfl)) ?_; (with_reducible refine (ice_within.calls (-1) a2 (wrap64 ((l0.length : Int) - 1)) false _ A6.out).mono ?_); rintro e w' ⟨rfl, ⟨nd, rfl⟩⟩; refine ⟨_, rfl, ?_⟩))
    go_ret2
    exact ⟨_, by first | rfl | (simp [errW_none, errW_some] <;> rfl) | (simp [*, errW_none, errW_some] <;> rfl), by first | exact Kd.R_nil _ _ _ _ _ | exact Kd.N_nil _ _ _ _ _ | exact Kd.V_nil _ _ _ _ _ | exact Kd.Q_nil _ _ _ _ _ | exact Kd.S_nil _ _ _ _ _, below_step HB00.out (by repeat (first | (with_reducible first | exact HB.out | apply below_alloc | apply pw_below_drewN | apply below_drew1 | refine below_set ?_ (IsS87.ge HI106.out)) | exact HB.out))⟩
  subst c7
  have H1 : ((ice_game_tonight.f k t101 t102 t103 t104 a2).bind fun bt108 => (if bt108.1 = (-1) then (some (([] : List Int), 5)) else ((ice_game_list.f k t101 t102 bt108.2 bt108.1).bind fun bt110 => (some (bt110.1, 0))))) = some (r1, r2) := by rw [if_pos rfl] at H; exact H
  clear H
  have H := H1
  clear H1
  replace H := Option.bind_eq_some_iff.mp H
  obtain ⟨⟨t108, t109⟩, A80, H⟩ := H
  replace H : (if t108 = (-1) then (some (([] : List Int), 5)) else ((ice_game_list.f k t101 t102 t109 t108).bind fun bt110 => (some (bt110.1, 0)))) = some (r1, r2) := H
  have A8 := Aside0.mk A80
  clear A80
  by_cases c9 : t108 = (-1)
  · rw [if_pos c9] at H
    have c9b0 : (t108 == (-1)) = true := beq_iff_eq.mpr c9
    have c9b1 : (t108 != (-1)) = false := bne_eq_false_iff_eq.mpr c9
    clear c9
    simp only [Option.some.injEq, Prod.mk.injEq] at H
    obtain ⟨rfl, rfl⟩ := H
    go_enter Try.func35, Try.ntmps35
    go_wp2_with (first | ((with_reducible refine gate_callee (f := 73) rfl ?_); refine goesL_ (some 15) rfl rfl Try.func73 (by kernel_rfl) rfl #[.slice A0 l0.length c0, .slice A1 l1.length c1] rfl (by (try simp only [List.map_toArray, List.map_cons, List.map_nil]); first | done | rfl | (simp only [List.length_drop, List.length_take]; rfl)) ?_; (with_reducible refine (ice_open.calls_ok k _ _ l0 _ _ l1 t101 t102 t103 t104 t105 w _ ?side1 ?side2 ?side3 ?side4 ?side5 A4.out NE106.out).mono ?_); (case side1 => repeat (first | (with_reducible first | exact HB.out | apply below_alloc | apply pw_below_drewN | apply below_drew1) | exact HB.out)); (case side2 => exact HR0.out); (case side3 => exact HC0.out); (case side4 => exact HR1.out); (case side5 => exact HC1.out); rintro e w ⟨g106, rfl, hi, hb, hb2⟩; refine ⟨_, rfl, ?_⟩; have n0_ := Aside0.mk (hb); have n1_ := Aside0.mk (hi); clear HB; have HB := n0_; have HI106 := n1_; clear n0_ n1_; have HB00_ := Aside0.mk (below_step HB00.out HB.out); have n_ := Aside0.mk (Kd.C_below HR0.out HB.out); clear HR0; have HR0 := n_; clear n_; have n_ := Aside0.mk (Kd.C_below HR1.out HB.out); clear HR1; have HR1 := n_; clear n_; clear HB00 HB; have HB00 := HB00_; clear HB00_; have HB := Aside0.mk (Below.refl w.heap.size w); (try clear hb); (try clear hb2); (try clear hk); (try clear hi)) | ((with_reducible refine gate_callee (f := 50) rfl ?_); refine goesL_ (some 28) rfl rfl Try.func50 (by kernel_rfl) rfl #[.int .i64 (-1), .int .i64 a2, .int .i64 (wrap64 ((l0.length : Int) - 1))] rfl (by (try simp only [List.map_toArray, List.map_cons, List.map_nil]); first | done | rfl | (simp only [List.length_drop, List.length_take]; rfl)) ?_; (with_reducible refine (ice_within.calls (-1) a2 (wrap64 ((l0.length : Int) - 1)) true _ A6.out).mono ?_); rintro e w' ⟨rfl, ⟨nd, rfl⟩⟩; refine ⟨_, rfl, ?_⟩) | ((with_reducible refine gate_callee (f := 61) rfl ?_); refine goesL_ (some 33) rfl rfl Try.func61 (by kernel_rfl) rfl #[.pointer (some ⟨g106, 0, none⟩), .int .i64 t104, .int .i64 a2] rfl (by (try simp only [List.map_toArray, List.map_cons, List.map_nil]); first | done | rfl | (simp only [List.length_drop, List.length_take]; rfl)) ?_; (with_reducible refine (ice_game_tonight.calls k g106 t101 t102 t103 t104 a2 t108 t109 w _ ?side1 ?side2 A8.out).mono ?_); (case side1 => repeat (first | (with_reducible first | exact HI106.out | apply IsS87.alloc | apply IsS87.drewN | apply IsS87.drew | apply IsS87.set_2) | exact HI106.out)); (case side2 => repeat (first | (with_reducible first | exact HB.out | apply below_alloc | apply pw_below_drewN | apply below_drew1 | refine below_set ?_ (IsS87.ge HI106.out)) | exact HB.out)); rintro e w11 ⟨rfl, hi, hb, hk⟩; refine ⟨_, rfl, ?_⟩; have n0_ := Aside0.mk (hb); have n1_ := Aside0.mk (hi); clear HB; clear HI106; have HB := n0_; have HI106 := n1_; clear n0_ n1_; (try clear hb); (try clear hb2); (try clear hk); (try clear hi)))
    go_ret2
    exact ⟨_, by first | rfl | (simp [errW_none, errW_some] <;> rfl) | (simp [*, errW_none, errW_some] <;> rfl), by first | exact Kd.R_nil _ _ _ _ _ | exact Kd.N_nil _ _ _ _ _ | exact Kd.V_nil _ _ _ _ _ | exact Kd.Q_nil _ _ _ _ _ | exact Kd.S_nil _ _ _ _ _, below_step HB00.out (by repeat (first | (with_reducible first | exact HB.out | apply below_alloc | apply pw_below_drewN | apply below_drew1 | refine below_set ?_ (IsS87.ge HI106.out)) | exact HB.out))⟩
  rw [if_neg c9] at H
  have c9b0 : (t108 == (-1)) = false := beq_eq_false_iff_ne.mpr c9
  have c9b1 : (t108 != (-1)) = true := bne_iff_ne.mpr c9
  replace H := Option.bind_eq_some_iff.mp H
  obtain ⟨⟨t110, t113⟩, A120, H⟩ := H
  replace H : (some (t110, 0)) = some (r1, r2) := H
  have A12 := Aside0.mk A120
  clear A120
  simp only [Option.some.injEq, Prod.mk.injEq] at H
  obtain ⟨rfl, rfl⟩ := H
  go_enter Try.func35, Try.ntmps35
  go_wp2_with (first | ((with_reducible refine gate_callee (f := 73) rfl ?_); refine goesL_ (some 15) rfl rfl Try.func73 (by kernel_rfl) rfl #[.slice A0 l0.length c0, .slice A1 l1.length c1] rfl (by (try simp only [List.map_toArray, List.map_cons, List.map_nil]); first | done | rfl | (simp only [List.length_drop, List.length_take]; rfl)) ?_; (with_reducible refine (ice_open.calls_ok k _ _ l0 _ _ l1 t101 t102 t103 t104 t105 w _ ?side1 ?side2 ?side3 ?side4 ?side5 A4.out NE106.out).mono ?_); (case side1 => repeat (first | (with_reducible first | exact HB.out | apply below_alloc | apply pw_below_drewN | apply below_drew1) | exact HB.out)); (case side2 => exact HR0.out); (case side3 => exact HC0.out); (case side4 => exact HR1.out); (case side5 => exact HC1.out); rintro e w ⟨g106, rfl, hi, hb, hb2⟩; refine ⟨_, rfl, ?_⟩; have n0_ := Aside0.mk (hb); have n1_ := Aside0.mk (hi); clear HB; have HB := n0_; have HI106 := n1_; clear n0_ n1_; have HB00_ := Aside0.mk (below_step HB00.out HB.out); have n_ := Aside0.mk (Kd.C_below HR0.out HB.out); clear HR0; have HR0 := n_; clear n_; have n_ := Aside0.mk (Kd.C_below HR1.out HB.out); clear HR1; have HR1 := n_; clear n_; clear HB00 HB; have HB00 := HB00_; clear HB00_; have HB := Aside0.mk (Below.refl w.heap.size w); (try clear hb); (try clear hb2); (try clear hk); (try clear hi)) | ((with_reducible refine gate_callee (f := 50) rfl ?_); refine goesL_ (some 28) rfl rfl Try.func50 (by kernel_rfl) rfl #[.int .i64 (-1), .int .i64 a2, .int .i64 (wrap64 ((l0.length : Int) - 1))] rfl (by (try simp only [List.map_toArray, List.map_cons, List.map_nil]); first | done | rfl | (simp only [List.length_drop, List.length_take]; rfl)) ?_; (with_reducible refine (ice_within.calls (-1) a2 (wrap64 ((l0.length : Int) - 1)) true _ A6.out).mono ?_); rintro e w' ⟨rfl, ⟨nd, rfl⟩⟩; refine ⟨_, rfl, ?_⟩) | ((with_reducible refine gate_callee (f := 61) rfl ?_); refine goesL_ (some 33) rfl rfl Try.func61 (by kernel_rfl) rfl #[.pointer (some ⟨g106, 0, none⟩), .int .i64 t104, .int .i64 a2] rfl (by (try simp only [List.map_toArray, List.map_cons, List.map_nil]); first | done | rfl | (simp only [List.length_drop, List.length_take]; rfl)) ?_; (with_reducible refine (ice_game_tonight.calls k g106 t101 t102 t103 t104 a2 t108 t109 w _ ?side1 ?side2 A8.out).mono ?_); (case side1 => repeat (first | (with_reducible first | exact HI106.out | apply IsS87.alloc | apply IsS87.drewN | apply IsS87.drew | apply IsS87.set_2) | exact HI106.out)); (case side2 => repeat (first | (with_reducible first | exact HB.out | apply below_alloc | apply pw_below_drewN | apply below_drew1 | refine below_set ?_ (IsS87.ge HI106.out)) | exact HB.out)); rintro e w14 ⟨rfl, hi, hb, hk⟩; refine ⟨_, rfl, ?_⟩; have n0_ := Aside0.mk (hb); have n1_ := Aside0.mk (hi); clear HB; clear HI106; have HB := n0_; have HI106 := n1_; clear n0_ n1_; (try clear hb); (try clear hb2); (try clear hk); (try clear hi)) | ((with_reducible refine gate_callee (f := 74) rfl ?_); refine goesL_ (some 38) rfl rfl Try.func74 (by kernel_rfl) rfl #[.pointer (some ⟨g106, 0, none⟩), .int .i64 t108] rfl (by (try simp only [List.map_toArray, List.map_cons, List.map_nil]); first | done | rfl | (simp only [List.length_drop, List.length_take]; rfl)) ?_; (with_reducible refine (ice_game_list.calls k g106 t101 t102 t109 t108 t110 t113 w _ ?side1 ?side2 A12.out).mono ?_); (case side1 => repeat (first | (with_reducible first | exact HI106.out | apply IsS87.alloc | apply IsS87.drewN | apply IsS87.drew | apply IsS87.set_2) | exact HI106.out)); (case side2 => repeat (first | (with_reducible first | exact HB.out | apply below_alloc | apply pw_below_drewN | apply below_drew1 | refine below_set ?_ (IsS87.ge HI106.out)) | exact HB.out)); rintro e w15 ⟨v111, rfl, ho0, hi, hb, hk⟩; refine ⟨_, rfl, ?_⟩; have n0_ := Aside0.mk (Kd.R_lower ho0 (below_size (by repeat (first | (with_reducible first | exact HB.out | apply below_alloc | apply pw_below_drewN | apply below_drew1 | refine below_set ?_ (IsS87.ge HI106.out)) | exact HB.out)))); have n1_ := Aside0.mk (hb); have n2_ := Aside0.mk (hi); clear HB; clear HI106; have HO112 := n0_; have HB := n1_; have HI106 := n2_; clear n0_ n1_ n2_; (try clear hb); (try clear hb2); (try clear hk); (try clear hi); (try clear ho0)))
  go_ret2
  exact ⟨_, by first | rfl | (simp [errW_none, errW_some] <;> rfl) | (simp [*, errW_none, errW_some] <;> rfl), Kd.R_lower (by (with_reducible repeat (first | apply Kd.R_alloc | apply Kd.R_drewN | apply Kd.R_drew)); exact HO112.out) (below_size HB00.out), below_step HB00.out (by repeat (first | (with_reducible first | exact HB.out | apply below_alloc | apply pw_below_drewN | apply below_drew1 | refine below_set ?_ (IsS87.ge HI106.out)) | exact HB.out))⟩
end Go.Proofs.Ythbpibdfookbmaa.G
