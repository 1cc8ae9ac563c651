-- Written by this session's driver (wip/tools/printmore.py) over the kit's print, with hand-written parts.
import Derived.Test.YtciepmpadcpkbaaGBase
import Derived.Test.YtciepmpadcpkbaaGF56
import Derived.Test.YtciepmpadcpkbaaGF50
import Derived.Test.YtciepmpadcpkbaaGF53
namespace Go.Proofs.Ytciepmpadcpkbaa.G
open Go.RowKit Go.Proofs.YtciepmpadcpkbaaW.PrintWords Go.Proofs.YtciepmpadcpkbaaW.PrintLast Go.Proofs.YtciepmpadcpkbaaW.PrintMore
attribute [local go_sem] max2_int min2_int max_two min_two max_three min_three max_four min_four   -- for this text's walks alone
set_option linter.unusedVariables false
set_option linter.unusedSimpArgs false

/-! ### wire_Clashes: function 17 -/
def wire_Clashes.f (k : Nat) (l0 : List (S72)) (a1 : Int) (a2 : Int) (a3 : Int) (a4 : Int) : Option (Bool × Int) := (wire_asked.f k l0 a1 a2).bind fun bt101 => (if bt101.2 = 0 then ((wire_within.f 0 a3 (wrap64 ((l0.length : Int) - 1))).bind fun t105 => (if t105 = true then ((wire_within.f 0 a4 (wrap64 ((l0.length : Int) - 1))).bind fun t106 => (if t106 = true then (if 0 ≤ a3 then (if a3 < (l0.length : Int) then (if 0 ≤ a4 then (if a4 < (l0.length : Int) then ((wire_places_to.f bt101.1 a3 a4).bind fun t109 => (some (decide (((rd_T72 l0 a3).f1) > (wrap64 (((rd_T72 l0 a4).f2) + t109))), 0))) else (none)) else (none)) else (none)) else (none)) else (some (false, 2)))) else (some (false, 2)))) else (some (false, bt101.2)))
theorem wire_Clashes.mono : ∀ a0 a1 a2 a3 a4 k, LeO (wire_Clashes.f k a0 a1 a2 a3 a4) (wire_Clashes.f (k + 1) a0 a1 a2 a3 a4) := by
 intro a0 a1 a2 a3 a4 k
 unfold wire_Clashes.f
 repeat' first
   | (with_reducible exact wire_asked.mono _ _ _ _)
   | (with_reducible exact LeO.refl _)
   | (with_reducible exact LeO.none _)
   | (with_reducible refine LeO.ite ?_ ?_)
   | (with_reducible refine LeO.bind ?_ (fun _ => ?_))
   | exact wire_asked.mono _ _ _ _
   | exact LeO.none _
   | refine LeO.ite ?_ ?_
   | refine LeO.bind ?_ (fun _ => ?_)
def wire_Clashes.T6 : Bool × List (List Nat × List Nat) := (true, [([], []), ([], []), ([0, 1], [0, 1]), ([2], [2]), ([3], [3]), ([], []), ([], []), ([5, 6], [5, 6]), ([7], [7]), ([8], [8]), ([], []), ([], []), ([], []), ([10, 11, 12], [10, 11, 12]), ([9, 13], [9, 13]), ([4, 14], [4, 14]), ([15, 13, 0, 1, 2, 3, 4, 5, 6, 7, 8, 9, 10, 11, 12, 13, 14, 15], [15]), ([16, 0, 1, 2, 3, 4, 5, 6, 7, 8, 9, 10, 11, 12, 13, 14, 15, 16], [])])
def wire_Clashes.B6 : List Nat := [0, 0, 3, 7, 15, 0, 0, 96, 224, 480, 0, 0, 0, 7168, 16352, 32767, 65535, 131071]
theorem wire_Clashes.tab6 : rtab .any (opsOf Try.f17 6) = wire_Clashes.T6 := by kernel_rfl
theorem wire_Clashes.bits6 : waitsOk wire_Clashes.T6.2 wire_Clashes.B6 = true := by kernel_rfl
set_option maxHeartbeats 8000000 in
set_option maxRecDepth 100000 in
theorem wire_Clashes.calls (k : Nat) (A0 : Option Addr) (c0 : Nat) (l0 : List (S72)) (a1 : Int) (a2 : Int) (a3 : Int) (a4 : Int) (r1 : Bool) (r2 : Int) (w : World) (hr0 : Kd.C k72 w A0 l0.length l0) (hc0 : l0.length ≤ c0) (h : wire_Clashes.f k l0 a1 a2 a3 a4 = some (r1, r2)) :
  Calls Try.prog 17 #[.slice A0 l0.length c0, .int .i64 a1, .int .i64 a2, .int .i64 a3, .int .i64 a4] w fun e w' => e = .returned (.tuple #[.bool r1, .int .i64 r2]) ∧ Below w.heap.size w w' := by
 have HR0 := A_ hr0
 have HC0 := A_ hc0
 clear hr0 hc0
 have HB := A_ (Below.refl w.heap.size w)
 have H : ((wire_asked.f k l0 a1 a2).bind fun bt101 => (if bt101.2 = 0 then ((wire_within.f 0 a3 (wrap64 ((l0.length : Int) - 1))).bind fun t105 => (if t105 = true then ((wire_within.f 0 a4 (wrap64 ((l0.length : Int) - 1))).bind fun t106 => (if t106 = true then (if 0 ≤ a3 then (if a3 < (l0.length : Int) then (if 0 ≤ a4 then (if a4 < (l0.length : Int) then ((wire_places_to.f bt101.1 a3 a4).bind fun t109 => (some (decide (((rd_T72 l0 a3).f1) > (wrap64 (((rd_T72 l0 a4).f2) + t109))), 0))) else (none)) else (none)) else (none)) else (none)) else (some (false, 2)))) else (some (false, 2)))) else (some (false, bt101.2)))) = some (r1, r2) := h
 clear h
 replace H := Option.bind_eq_some_iff.mp H
 obtain ⟨⟨t101, t102⟩, A60, H⟩ := H
 replace H : (if t102 = 0 then ((wire_within.f 0 a3 (wrap64 ((l0.length : Int) - 1))).bind fun t105 => (if t105 = true then ((wire_within.f 0 a4 (wrap64 ((l0.length : Int) - 1))).bind fun t106 => (if t106 = true then (if 0 ≤ a3 then (if a3 < (l0.length : Int) then (if 0 ≤ a4 then (if a4 < (l0.length : Int) then ((wire_places_to.f t101 a3 a4).bind fun t109 => (some (decide (((rd_T72 l0 a3).f1) > (wrap64 (((rd_T72 l0 a4).f2) + t109))), 0))) else (none)) else (none)) else (none)) else (none)) else (some (false, 2)))) else (some (false, 2)))) else (some (false, t102))) = some (r1, r2) := H
 have A6 := A_ A60
 clear A60
 by_cases c7 : t102 = 0
 rotate_left
 ·rw [if_neg c7] at H
  have c7b0 : (t102 == 0) = false := beq_eq_false_iff_ne.mpr c7
  have c7b1 : (t102 != 0) = true := bne_iff_ne.mpr c7
  simp only [Option.some.injEq, Prod.mk.injEq] at H
  obtain ⟨rfl, rfl⟩ := H
  go_enter Try.func17, Try.ntmps17
  go_wp2_with (first | ((with_reducible refine gate_callee (f := 50) rfl ?_); refine goesL_ (some 18) rfl rfl Try.func50 (by kernel_rfl) rfl #[.slice A0 l0.length c0, .int .i64 a1, .int .i64 a2] rfl (by (try simp only [List.map_toArray, List.map_cons, List.map_nil]); first | done | rfl | (simp only [List.length_drop, List.length_take]; rfl)) ?_; (with_reducible refine (wire_asked.calls k _ _ l0 a1 a2 t101 t102 _ ?side1 ?side2 A6.out).mono ?_); (case side1 => exact cU HR0.out); (case side2 => exact HC0.out); rintro e w23 ⟨v103, rfl, ho0, hb⟩; refine ⟨_, rfl, ?_⟩; have n0_ := A_ (Kd.R_lower ho0 (below_size (bW0 HB.out))); have n1_ := A_ (below_step (bW0 HB.out) hb); clear HB; have HO104 := n0_; have HB := n1_; clear n0_ n1_; (try clear hb); (try clear hb2); (try clear hk); (try clear hi); (try clear ho0)))
  go_ret2
  exact ⟨by first | rfl | (simp [errW_none, errW_some] <;> rfl) | (simp [*, errW_none, errW_some] <;> rfl), by repeat (first | (with_reducible first | exact HB.out | apply below_alloc | apply pw_below_drewN | apply below_drew1) | exact HB.out)⟩

 rw [if_pos c7] at H
 have c7b0 : (t102 == 0) = true := beq_iff_eq.mpr c7
 have c7b1 : (t102 != 0) = false := bne_eq_false_iff_eq.mpr c7
 clear c7
 replace H := Option.bind_eq_some_iff.mp H
 obtain ⟨t105, A80, H⟩ := H
 replace H : (if t105 = true then ((wire_within.f 0 a4 (wrap64 ((l0.length : Int) - 1))).bind fun t106 => (if t106 = true then (if 0 ≤ a3 then (if a3 < (l0.length : Int) then (if 0 ≤ a4 then (if a4 < (l0.length : Int) then ((wire_places_to.f t101 a3 a4).bind fun t109 => (some (decide (((rd_T72 l0 a3).f1) > (wrap64 (((rd_T72 l0 a4).f2) + t109))), 0))) else (none)) else (none)) else (none)) else (none)) else (some (false, 2)))) else (some (false, 2))) = some (r1, r2) := H
 have A8 := A_ A80
 clear A80
 by_cases c9 : t105 = true
 rotate_left
 ·replace c9 := Bool.eq_false_iff.mpr c9
  subst c9
  have H1 : (some (false, 2)) = some (r1, r2) := by rw [if_neg (show ¬ (false = true) by decide)] at H; exact H
  clear H
  have H := H1
  clear H1
  simp only [Option.some.injEq, Prod.mk.injEq] at H
  obtain ⟨rfl, rfl⟩ := H
  go_enter Try.func17, Try.ntmps17
  go_wp2_with (first | ((with_reducible refine gate_callee (f := 50) rfl ?_); refine goesL_ (some 18) rfl rfl Try.func50 (by kernel_rfl) rfl #[.slice A0 l0.length c0, .int .i64 a1, .int .i64 a2] rfl (by (try simp only [List.map_toArray, List.map_cons, List.map_nil]); first | done | rfl | (simp only [List.length_drop, List.length_take]; rfl)) ?_; (with_reducible refine (wire_asked.calls k _ _ l0 a1 a2 t101 t102 _ ?side1 ?side2 A6.out).mono ?_); (case side1 => exact cU HR0.out); (case side2 => exact HC0.out); rintro e w22 ⟨v103, rfl, ho0, hb⟩; refine ⟨_, rfl, ?_⟩; have n0_ := A_ (Kd.R_lower ho0 (below_size (bW0 HB.out))); have n1_ := A_ (below_step (bW0 HB.out) hb); clear HB; have HO104 := n0_; have HB := n1_; clear n0_ n1_; (try clear hb); (try clear hb2); (try clear hk); (try clear hi); (try clear ho0)) | ((with_reducible refine gate_callee (f := 56) rfl ?_); refine goesL_ (some 30) rfl rfl Try.func56 (by kernel_rfl) rfl #[.int .i64 0, .int .i64 a3, .int .i64 (wrap64 ((l0.length : Int) - 1))] rfl (by (try simp only [List.map_toArray, List.map_cons, List.map_nil]); first | done | rfl | (simp only [List.length_drop, List.length_take]; rfl)) ?_; (with_reducible refine (wire_within.calls 0 a3 (wrap64 ((l0.length : Int) - 1)) false _ A8.out).mono ?_); rintro e w' ⟨rfl, ⟨nd, rfl⟩⟩; refine ⟨_, rfl, ?_⟩))
  go_ret2
  exact ⟨by first | rfl | (simp [errW_none, errW_some] <;> rfl) | (simp [*, errW_none, errW_some] <;> rfl), by repeat (first | (with_reducible first | exact HB.out | apply below_alloc | apply pw_below_drewN | apply below_drew1) | exact HB.out)⟩
 subst c9
 have H1 : ((wire_within.f 0 a4 (wrap64 ((l0.length : Int) - 1))).bind fun t106 => (if t106 = true then (if 0 ≤ a3 then (if a3 < (l0.length : Int) then (if 0 ≤ a4 then (if a4 < (l0.length : Int) then ((wire_places_to.f t101 a3 a4).bind fun t109 => (some (decide (((rd_T72 l0 a3).f1) > (wrap64 (((rd_T72 l0 a4).f2) + t109))), 0))) else (none)) else (none)) else (none)) else (none)) else (some (false, 2)))) = some (r1, r2) := by rw [if_pos rfl] at H; exact H
 clear H
 have H := H1
 clear H1
 replace H := Option.bind_eq_some_iff.mp H
 obtain ⟨t106, A100, H⟩ := H
 replace H : (if t106 = true then (if 0 ≤ a3 then (if a3 < (l0.length : Int) then (if 0 ≤ a4 then (if a4 < (l0.length : Int) then ((wire_places_to.f t101 a3 a4).bind fun t109 => (some (decide (((rd_T72 l0 a3).f1) > (wrap64 (((rd_T72 l0 a4).f2) + t109))), 0))) else (none)) else (none)) else (none)) else (none)) else (some (false, 2))) = some (r1, r2) := H
 have A10 := A_ A100
 clear A100
 by_cases c11 : t106 = true
 rotate_left
 ·replace c11 := Bool.eq_false_iff.mpr c11
  subst c11
  have H1 : (some (false, 2)) = some (r1, r2) := by rw [if_neg (show ¬ (false = true) by decide)] at H; exact H
  clear H
  have H := H1
  clear H1
  simp only [Option.some.injEq, Prod.mk.injEq] at H
  obtain ⟨rfl, rfl⟩ := H
  go_enter Try.func17, Try.ntmps17
  go_wp2_with (first | ((with_reducible refine gate_callee (f := 50) rfl ?_); refine goesL_ (some 18) rfl rfl Try.func50 (by kernel_rfl) rfl #[.slice A0 l0.length c0, .int .i64 a1, .int .i64 a2] rfl (by (try simp only [List.map_toArray, List.map_cons, List.map_nil]); first | done | rfl | (simp only [List.length_drop, List.length_take]; rfl)) ?_; (with_reducible refine (wire_asked.calls k _ _ l0 a1 a2 t101 t102 _ ?side1 ?side2 A6.out).mono ?_); (case side1 => exact cU HR0.out); (case side2 => exact HC0.out); rintro e w21 ⟨v103, rfl, ho0, hb⟩; refine ⟨_, rfl, ?_⟩; have n0_ := A_ (Kd.R_lower ho0 (below_size (bW0 HB.out))); have n1_ := A_ (below_step (bW0 HB.out) hb); clear HB; have HO104 := n0_; have HB := n1_; clear n0_ n1_; (try clear hb); (try clear hb2); (try clear hk); (try clear hi); (try clear ho0)) | ((with_reducible refine gate_callee (f := 56) rfl ?_); refine goesL_ (some 30) rfl rfl Try.func56 (by kernel_rfl) rfl #[.int .i64 0, .int .i64 a3, .int .i64 (wrap64 ((l0.length : Int) - 1))] rfl (by (try simp only [List.map_toArray, List.map_cons, List.map_nil]); first | done | rfl | (simp only [List.length_drop, List.length_take]; rfl)) ?_; (with_reducible refine (wire_within.calls 0 a3 (wrap64 ((l0.length : Int) - 1)) true _ A8.out).mono ?_); rintro e w' ⟨rfl, ⟨nd, rfl⟩⟩; refine ⟨_, rfl, ?_⟩) | (go_at_call 56; (with_reducible refine (wire_within.calls 0 a4 (wrap64 ((l0.length : Int) - 1)) false _ A10.out).mono ?_); rintro e w' ⟨rfl, ⟨nd, rfl⟩⟩))
  go_ret2
  exact ⟨by first | rfl | (simp [errW_none, errW_some] <;> rfl) | (simp [*, errW_none, errW_some] <;> rfl), by repeat (first | (with_reducible first | exact HB.out | apply below_alloc | apply pw_below_drewN | apply below_drew1) | exact HB.out)⟩
 subst c11
 have H1 : (if 0 ≤ a3 then (if a3 < (l0.length : Int) then (if 0 ≤ a4 then (if a4 < (l0.length : Int) then ((wire_places_to.f t101 a3 a4).bind fun t109 => (some (decide (((rd_T72 l0 a3).f1) > (wrap64 (((rd_T72 l0 a4).f2) + t109))), 0))) else (none)) else (none)) else (none)) else (none)) = some (r1, r2) := by rw [if_pos rfl] at H; exact H
 clear H
 have H := H1
 clear H1
 by_cases c12 : 0 ≤ a3
 rotate_left
 ·rw [if_neg c12] at H
  exact absurd H (by simp)
 rw [if_pos c12] at H
 have c12b0 : decide (0 ≤ a3) = true := decide_eq_true c12
 clear c12
 by_cases c13 : a3 < (l0.length : Int)
 rotate_left
 ·rw [if_neg c13] at H
  exact absurd H (by simp)
 rw [if_pos c13] at H
 have c13b0 : decide (a3 < (l0.length : Int)) = true := decide_eq_true c13
 clear c13
 by_cases c14 : 0 ≤ a4
 rotate_left
 ·rw [if_neg c14] at H
  exact absurd H (by simp)
 rw [if_pos c14] at H
 have c14b0 : decide (0 ≤ a4) = true := decide_eq_true c14
 clear c14
 by_cases c15 : a4 < (l0.length : Int)
 rotate_left
 ·rw [if_neg c15] at H
  exact absurd H (by simp)
 rw [if_pos c15] at H
 have c15b0 : decide (a4 < (l0.length : Int)) = true := decide_eq_true c15
 clear c15
 replace H := Option.bind_eq_some_iff.mp H
 obtain ⟨t109, A160, H⟩ := H
 replace H : (some (decide (((rd_T72 l0 a3).f1) > (wrap64 (((rd_T72 l0 a4).f2) + t109))), 0)) = some (r1, r2) := H
 have A16 := A_ A160
 clear A160
 simp only [Option.some.injEq, Prod.mk.injEq] at H
 obtain ⟨rfl, rfl⟩ := H
 go_enter Try.func17, Try.ntmps17
 try go_wp2_with (first | ((with_reducible refine gate_callee (f := 50) rfl ?_); refine goesL_ (some 18) rfl rfl Try.func50 (by kernel_rfl) rfl #[.slice A0 l0.length c0, .int .i64 a1, .int .i64 a2] rfl (by (try simp only [List.map_toArray, List.map_cons, List.map_nil]); first | done | rfl | (simp only [List.length_drop, List.length_take]; rfl)) ?_; (with_reducible refine (wire_asked.calls k _ _ l0 a1 a2 t101 t102 _ ?side1 ?side2 A6.out).mono ?_); (case side1 => exact cU HR0.out); (case side2 => exact HC0.out); rintro e w17 ⟨v103, rfl, ho0, hb⟩; refine ⟨_, rfl, ?_⟩; have n0_ := A_ (Kd.R_lower ho0 (below_size (bW0 HB.out))); have n1_ := A_ (below_step (bW0 HB.out) hb); clear HB; have HO104 := n0_; have HB := n1_; clear n0_ n1_; (try clear hb); (try clear hb2); (try clear hk); (try clear hi); (try clear ho0)) | ((with_reducible refine gate_callee (f := 56) rfl ?_); refine goesL_ (some 30) rfl rfl Try.func56 (by kernel_rfl) rfl #[.int .i64 0, .int .i64 a3, .int .i64 (wrap64 ((l0.length : Int) - 1))] rfl (by (try simp only [List.map_toArray, List.map_cons, List.map_nil]); first | done | rfl | (simp only [List.length_drop, List.length_take]; rfl)) ?_; (with_reducible refine (wire_within.calls 0 a3 (wrap64 ((l0.length : Int) - 1)) true _ A8.out).mono ?_); rintro e w' ⟨rfl, ⟨nd, rfl⟩⟩; refine ⟨_, rfl, ?_⟩) | (go_at_call 56; (with_reducible refine (wire_within.calls 0 a4 (wrap64 ((l0.length : Int) - 1)) true _ A10.out).mono ?_); rintro e w' ⟨rfl, ⟨nd, rfl⟩⟩))
 (try (rw [drewN_self w17]; generalize hq_ : World.drewN w17 _ = w17; have n0_ : Aside0 (Kd.R (Kd.int .i64) 3 w17 w.heap.size (fun _ => True) v103 t101) := ⟨by rw [← hq_]; exact (rU HO104.out)⟩; have n1_ : Aside0 (Below w.heap.size w w17) := ⟨by rw [← hq_]; exact (bW0 HB.out)⟩; clear HO104 HB hq_; have HO104 := n0_; have HB := n1_; clear n0_ n1_))
 have n0_ := A_ (Kd.R_drew HO104.out)
 have n1_ := A_ (below_drew1 HB.out)
 clear HO104
 clear HB
 have HO104 := n0_
 have HB := n1_
 clear n0_ n1_
 have p107 : 0 ≤ (a3 : Int) := of_decide_eq_true (by first | (with_reducible assumption) | assumption)
 have q107 : a3 < (l0.length : Int) := of_decide_eq_true (by first | (with_reducible assumption) | assumption)
 obtain ⟨ad107, e107, hx107_0, hx107_1, hx107_2⟩ := at_T72 HR0.out a3 p107 q107
 have hw107_2 := hx107_2
 have hw107_1 := hx107_1
 have hw107_0 := hx107_0
 cases e107
 replace hx107_0 := (HB.out.cell (World.block_lt_of_cell? w _ hx107_0)).trans hx107_0
 replace hx107_1 := (HB.out.cell (World.block_lt_of_cell? w _ hx107_1)).trans hx107_1
 replace hx107_2 := (HB.out.cell (World.block_lt_of_cell? w _ hx107_2)).trans hx107_2
 replace p107 := eq_true p107
 replace q107 := eq_true q107
 have p108 : 0 ≤ (a4 : Int) := of_decide_eq_true (by first | (with_reducible assumption) | assumption)
 have q108 : a4 < (l0.length : Int) := of_decide_eq_true (by first | (with_reducible assumption) | assumption)
 obtain ⟨ad108, e108, hx108_0, hx108_1, hx108_2⟩ := at_T72 HR0.out a4 p108 q108
 have hw108_2 := hx108_2
 have hw108_1 := hx108_1
 have hw108_0 := hx108_0
 obtain rfl : ad107 = ad108 := (by injection e108)
 replace hx108_0 := (HB.out.cell (World.block_lt_of_cell? w _ hx108_0)).trans hx108_0
 replace hx108_1 := (HB.out.cell (World.block_lt_of_cell? w _ hx108_1)).trans hx108_1
 replace hx108_2 := (HB.out.cell (World.block_lt_of_cell? w _ hx108_2)).trans hx108_2
 replace p108 := eq_true p108
 replace q108 := eq_true q108
 obtain ⟨Ao19, co19, eo19⟩ := Kd.R_slice HO104.out
 (first | subst eo19 | (injection eo19 with f1_ f2_ f3_; have f4_ := f1_.symm; have f5_ := f3_.symm; clear f1_ f2_ f3_; subst f4_; subst f5_))
 refine start_ (n := 18) (S := fun w' => w'.cell? (ad107.add ((a3).toNat * 3)) = some (.int .i64 ((rd_T72 l0 a3).f0)) ∧ w'.cell? ⟨(ad107.add ((a3).toNat * 3)).block, (ad107.add ((a3).toNat * 3)).off + 1, none⟩ = some (.int .i64 ((rd_T72 l0 a3).f1)) ∧ w'.cell? ⟨(ad107.add ((a3).toNat * 3)).block, (ad107.add ((a3).toNat * 3)).off + 2, none⟩ = some (.int .i64 ((rd_T72 l0 a3).f2)) ∧ w'.cell? (ad107.add ((a4).toNat * 3)) = some (.int .i64 ((rd_T72 l0 a4).f0)) ∧ w'.cell? ⟨(ad107.add ((a4).toNat * 3)).block, (ad107.add ((a4).toNat * 3)).off + 1, none⟩ = some (.int .i64 ((rd_T72 l0 a4).f1)) ∧ w'.cell? ⟨(ad107.add ((a4).toNat * 3)).block, (ad107.add ((a4).toNat * 3)).off + 2, none⟩ = some (.int .i64 ((rd_T72 l0 a4).f2))) (ds := []) (mkB 18 0) (by kernel_rfl) rfl rfl ⟨(pw_cell_below HB.out hw107_0), (pw_cell_below HB.out hw107_1), (pw_cell_below HB.out hw107_2), (pw_cell_below HB.out hw108_0), (pw_cell_below HB.out hw108_1), (pw_cell_below HB.out hw108_2)⟩ (fun hHeld => ?_); refine with_tabW wire_Clashes.tab6 wire_Clashes.bits6 (fun HT_ HW_ => ?_)
 generalize w17.drew = w18 at HO104 HB hx107_0 hx107_1 hx107_2 hx108_0 hx108_1 hx108_2 hHeld ⊢
 refine pr_ 0 (some 40) (mkB 18 1) HT_ ?_
 refine pr_ 1 (some 41) (mkB 18 3) HT_ ?_
 refine pr_ 2 (some 42) (mkB 18 7) HT_ ?_
 refine pr_ 3 (some 43) (mkB 18 15) HT_ ?_
 refine pr_ 5 (some 45) (mkB 18 47) HT_ ?_
 refine pr_ 6 (some 46) (mkB 18 111) HT_ ?_
 refine pr_ 7 (some 47) (mkB 18 239) HT_ ?_
 refine pr_ 8 (some 48) (mkB 18 495) HT_ ?_
 refine pr_ 10 (some 50) (mkB 18 1519) HT_ ?_
 refine pr_ 11 (some 51) (mkB 18 3567) HT_ ?_
 refine pr_ 12 (some 52) (mkB 18 7663) HT_ ?_
 refine take_ (i := 4) (N := some 44) (v := ?_) (a' := ?_) (mkB 18 7679) rfl rfl (take_ofW HT_.out HW_.out (by kernel_rfl)) (fun _ _ _ h => h) (Or.inl ⟨by rfl, ?_⟩) hHeld ?_ ?_
 rotate_left
 ·rintro w' ⟨s0, s1, s2, s3, s4, s5⟩
  go_simp
  with_reducible rfl
 rotate_left
 ·simp only [Act.put, List.setIfInBounds_toArray, List.set_cons_zero, List.set_cons_succ, i64_w, i32_w]
  rfl
 refine take_ (i := 9) (N := some 49) (v := ?_) (a' := ?_) (mkB 18 8191) rfl rfl (take_ofW HT_.out HW_.out (by kernel_rfl)) (fun _ _ _ h => h) (Or.inl ⟨by rfl, ?_⟩) hHeld ?_ ?_
 rotate_left
 ·rintro w' ⟨s0, s1, s2, s3, s4, s5⟩
  go_simp
  with_reducible rfl
 rotate_left
 ·simp only [Act.put, List.setIfInBounds_toArray, List.set_cons_zero, List.set_cons_succ, i64_w, i32_w]
  rfl
 refine one_ (i := 13) (N := some 53) (mkB 18 16383) rfl rfl (one_of HT_.out (by kernel_rfl)) (by decide) (fun K hK => ?_)
 refine goes_ Try.func53 (by kernel_rfl) rfl #[.slice Ao19 t101.length co19, .int .i64 a3, .int .i64 a4] (by rfl) rfl rfl (by (try simp only [List.map_toArray, List.map_cons, List.map_nil]); first | done | rfl | (simp only [List.length_drop, List.length_take]; rfl)) ?_
 with_reducible refine (wire_places_to.calls _ _ t101 a3 a4 t109 _ ?side1 ?side2 A16.out).mono ?_
 (case side1 => exact cU (Kd.R_reads' HO104.out).2.2)
 (case side2 => exact (Kd.R_reads' HO104.out).2.1)
 rintro e w20 ⟨rfl, hb⟩
 refine ⟨_, rfl, ?_⟩
 have n0_ := A_ (Kd.R_below (rU HO104.out) hb)
 have n1_ := A_ (below_step (bW0 HB.out) hb)
 clear HO104
 clear HB
 have HO104 := n0_
 have HB := n1_
 clear n0_ n1_
 (try clear hb)
 (try clear hb2)
 (try clear hk)
 (try clear hi)
 refine hK.out _ _ ⟨(pw_cell_below HB.out hw107_0), (pw_cell_below HB.out hw107_1), (pw_cell_below HB.out hw107_2), (pw_cell_below HB.out hw108_0), (pw_cell_below HB.out hw108_1), (pw_cell_below HB.out hw108_2)⟩ (fun hHeld => ?_)
 clear hK K
 refine norm_ (a' := ?_) ?_ ?_
 rotate_left
 ·show Act.put _ (some 53) _ = _
  simp only [Act.put, List.setIfInBounds_toArray, List.set_cons_zero, List.set_cons_succ, i64_w, i32_w]
  rfl
 refine pr_ 14 (some 54) (mkB 18 32767) HT_ ?_
 refine pr_ 15 (some 55) (mkB 18 65535) HT_ ?_
 refine pr_ 16 (some 10) (mkB 18 131071) HT_ ?_
 refine pr_ 17 (some 11) (mkB 18 262143) HT_ ?_
 refine done_ (done_of HT_.out (by kernel_rfl)) ?_
 try go_wp2
 go_ret2
 exact ⟨by first | rfl | (simp [errW_none, errW_some] <;> rfl) | (simp [*, errW_none, errW_some] <;> rfl), by repeat (first | (with_reducible first | exact HB.out | apply below_alloc | apply pw_below_drewN | apply below_drew1) | exact HB.out)⟩
end Go.Proofs.Ytciepmpadcpkbaa.G
