-- Written by this session's driver (wip/tools/printmore.py) over the kit's print, with hand-written parts.
import Derived.Test.YtiebfmenkpodeaaGBase
import Derived.Test.YtiebfmenkpodeaaGF58
import Derived.Test.YtiebfmenkpodeaaGF75
import Derived.Test.YtiebfmenkpodeaaGF59
import Derived.Test.YtiebfmenkpodeaaGF74
namespace Go.Proofs.Ytiebfmenkpodeaa.G
open Go.RowKit Go.Proofs.YtiebfmenkpodeaaW.PrintWords Go.Proofs.YtiebfmenkpodeaaW.PrintLast Go.Proofs.YtiebfmenkpodeaaW.PrintMore
attribute [local go_sem] max2_int min2_int max_two min_two max_three min_three max_four min_four   -- for this text's walks alone
set_option linter.unusedVariables false
set_option linter.unusedSimpArgs false

/-! ### pull_Rank: function 36 -/
mutual
def pull_Rank.l0 : Nat → List Int → List Int → Int → Int → Int → List Int → Int → Int → Option (Int × Int)
  | 0, _, _, _, _, _, _, _, _ => none
  | k + 1, x3, x12, x13, x38, x39, x106000, x106001, x106002 => if x39 < x38 then (if 0 ≤ x39 then (if x39 < (x3.length : Int) then (pull_Rank.l1 k x3 x12 x13 x39 (wrap64 ((rd x3 x39) + 1)) x38 x39 x106000 x106001 x106002) else (none)) else (none)) else (some (x13, 0))
def pull_Rank.l1 : Nat → List Int → List Int → Int → Int → Int → Int → Int → List Int → Int → Int → Option (Int × Int)
  | 0, _, _, _, _, _, _, _, _, _, _ => none
  | k + 1, x3, x12, x13, x14, x15, x38, x39, x106000, x106001, x106002 => if 0 ≤ (wrap64 (x14 + 1)) then (if (wrap64 (x14 + 1)) < (x3.length : Int) then (if x15 < (rd x3 (wrap64 (x14 + 1))) then (if 0 ≤ x14 then (if x14 < (x3.length : Int) then ((pull_layout_length.f x106000 x106001 x106002 (rd x3 x14) x15).bind fun bt118 => (if bt118.2.1 = true then (if 0 ≤ x15 then (if x15 < (x12.length : Int) then (pull_Rank.l1 k x3 x12 (wrap64 (x13 + (rd x12 x15))) x14 (wrap64 (x15 + 1)) x38 x39 x106000 bt118.2.2.1 bt118.2.2.2) else (none)) else (none)) else (pull_Rank.l1 k x3 x12 x13 x14 (wrap64 (x15 + 1)) x38 x39 x106000 bt118.2.2.1 bt118.2.2.2))) else (none)) else (none)) else (pull_Rank.l0 k x3 x12 x13 x38 (wrap64 (x39 + 1)) x106000 x106001 x106002)) else (none)) else (none)
end
def pull_Rank.f (k : Nat) (l0 : List Int) (a1 : Int) (a2 : Int) (l3 : List Int) : Option (Int × Int) := (pull_open.f k l0 a1 a2).bind fun bt101 => (if bt101.2.2.2 = 0 then ((pull_layout_isPlan.f k bt101.1 bt101.2.1 bt101.2.2.1 l3).bind fun bt106 => (if bt106.1 = true then ((pull_layout_numbers.f k bt101.1 bt106.2.1 bt106.2.2).bind fun bt109 => (if 1 ≤ (l3.length : Int) then (pull_Rank.l0 k l3 bt109.1 0 ((l3.drop 1).length : Int) 0 bt101.1 bt109.2.1 bt109.2.2) else (none))) else (some (0, 2)))) else (some (0, bt101.2.2.2)))
theorem pull_Rank.mono_l : ∀ k, (∀ y0 y1 y2 y3 y4 y5 y6 y7, LeO (pull_Rank.l0 k y0 y1 y2 y3 y4 y5 y6 y7) (pull_Rank.l0 (k + 1) y0 y1 y2 y3 y4 y5 y6 y7)) ∧ (∀ y0 y1 y2 y3 y4 y5 y6 y7 y8 y9, LeO (pull_Rank.l1 k y0 y1 y2 y3 y4 y5 y6 y7 y8 y9) (pull_Rank.l1 (k + 1) y0 y1 y2 y3 y4 y5 y6 y7 y8 y9))
  | 0 => ⟨fun _ _ _ _ _ _ _ _ r h => by simp [pull_Rank.l0] at h, fun _ _ _ _ _ _ _ _ _ _ r h => by simp [pull_Rank.l1] at h⟩
  | k + 1 => by
    obtain ⟨ih0, ih1⟩ := pull_Rank.mono_l k
    refine ⟨?_, ?_⟩
    · intro y0 y1 y2 y3 y4 y5 y6 y7
      unfold pull_Rank.l0
      repeat' first
      | (with_reducible exact ih0 _ _ _ _ _ _ _ _)
      | (with_reducible exact ih1 _ _ _ _ _ _ _ _ _ _)
      | (with_reducible exact pull_layout_isPlan.mono _ _ _ _ _)
      | (with_reducible exact pull_layout_numbers.mono _ _ _ _)
      | (with_reducible exact pull_open.mono _ _ _ _)
      | (with_reducible exact LeO.refl _)
      | (with_reducible exact LeO.none _)
      | (with_reducible refine LeO.ite ?_ ?_)
      | (with_reducible refine LeO.bind ?_ (fun _ => ?_))
      | exact ih0 _ _ _ _ _ _ _ _
      | exact ih1 _ _ _ _ _ _ _ _ _ _
      | exact pull_layout_isPlan.mono _ _ _ _ _
      | exact pull_layout_numbers.mono _ _ _ _
      | exact pull_open.mono _ _ _ _
      | exact LeO.none _
      | refine LeO.ite ?_ ?_
      | refine LeO.bind ?_ (fun _ => ?_)
    · intro y0 y1 y2 y3 y4 y5 y6 y7 y8 y9
      unfold pull_Rank.l1
      repeat' first
      | (with_reducible exact ih0 _ _ _ _ _ _ _ _)
      | (with_reducible exact ih1 _ _ _ _ _ _ _ _ _ _)
      | (with_reducible exact pull_layout_isPlan.mono _ _ _ _ _)
      | (with_reducible exact pull_layout_numbers.mono _ _ _ _)
      | (with_reducible exact pull_open.mono _ _ _ _)
      | (with_reducible exact LeO.refl _)
      | (with_reducible exact LeO.none _)
      | (with_reducible refine LeO.ite ?_ ?_)
      | (with_reducible refine LeO.bind ?_ (fun _ => ?_))
      | exact ih0 _ _ _ _ _ _ _ _
      | exact ih1 _ _ _ _ _ _ _ _ _ _
      | exact pull_layout_isPlan.mono _ _ _ _ _
      | exact pull_layout_numbers.mono _ _ _ _
      | exact pull_open.mono _ _ _ _
      | exact LeO.none _
      | refine LeO.ite ?_ ?_
      | refine LeO.bind ?_ (fun _ => ?_)
theorem pull_Rank.mono : ∀ a0 a1 a2 a3 k, LeO (pull_Rank.f k a0 a1 a2 a3) (pull_Rank.f (k + 1) a0 a1 a2 a3) := by
  intro a0 a1 a2 a3 k
  obtain ⟨ih0, ih1⟩ := pull_Rank.mono_l k
  unfold pull_Rank.f
  repeat' first
      | (with_reducible exact ih0 _ _ _ _ _ _ _ _)
      | (with_reducible exact ih1 _ _ _ _ _ _ _ _ _ _)
      | (with_reducible exact pull_layout_isPlan.mono _ _ _ _ _)
      | (with_reducible exact pull_layout_numbers.mono _ _ _ _)
      | (with_reducible exact pull_open.mono _ _ _ _)
      | (with_reducible exact LeO.refl _)
      | (with_reducible exact LeO.none _)
      | (with_reducible refine LeO.ite ?_ ?_)
      | (with_reducible refine LeO.bind ?_ (fun _ => ?_))
      | exact ih0 _ _ _ _ _ _ _ _
      | exact ih1 _ _ _ _ _ _ _ _ _ _
      | exact pull_layout_isPlan.mono _ _ _ _ _
      | exact pull_layout_numbers.mono _ _ _ _
      | exact pull_open.mono _ _ _ _
      | exact LeO.none _
      | refine LeO.ite ?_ ?_
      | refine LeO.bind ?_ (fun _ => ?_)
set_option maxHeartbeats 8000000 in
set_option maxRecDepth 100000 in
theorem pull_Rank.calls (k : Nat) (A0 : Option Addr) (c0 : Nat) (l0 : List Int) (a1 : Int) (a2 : Int) (A3 : Option Addr) (c3 : Nat) (l3 : List Int) (r1 : Int) (r2 : Int) (w : World) (hr0 : Kd.C (Kd.int .i64) w A0 l0.length l0) (hc0 : l0.length ≤ c0) (hr3 : Kd.C (Kd.int .i64) w A3 l3.length l3) (hc3 : l3.length ≤ c3) (h : pull_Rank.f k l0 a1 a2 l3 = some (r1, r2)) :
    Calls Try.prog 36 #[.slice A0 l0.length c0, .int .i64 a1, .int .i64 a2, .slice A3 l3.length c3] w fun e w' => e = .returned (.tuple #[.int .i64 r1, .int .i64 r2]) ∧ Below w.heap.size w w' := by
  have HR0 := Aside0.mk hr0
  have HC0 := Aside0.mk hc0
  clear hr0 hc0
  have HR3 := Aside0.mk hr3
  have HC3 := Aside0.mk hc3
  clear hr3 hc3
  have HB := Aside0.mk (Below.refl w.heap.size w)
  have H : ((pull_open.f k l0 a1 a2).bind fun bt101 => (if bt101.2.2.2 = 0 then ((pull_layout_isPlan.f k bt101.1 bt101.2.1 bt101.2.2.1 l3).bind fun bt106 => (if bt106.1 = true then ((pull_layout_numbers.f k bt101.1 bt106.2.1 bt106.2.2).bind fun bt109 => (if 1 ≤ (l3.length : Int) then (pull_Rank.l0 k l3 bt109.1 0 ((l3.drop 1).length : Int) 0 bt101.1 bt109.2.1 bt109.2.2) else (none))) else (some (0, 2)))) else (some (0, bt101.2.2.2)))) = some (r1, r2) := h
  clear h
  replace H := Option.bind_eq_some_iff.mp H
  obtain ⟨⟨t101, t102, t103, t104⟩, A50, H⟩ := H
  replace H : (if t104 = 0 then ((pull_layout_isPlan.f k t101 t102 t103 l3).bind fun bt106 => (if bt106.1 = true then ((pull_layout_numbers.f k t101 bt106.2.1 bt106.2.2).bind fun bt109 => (if 1 ≤ (l3.length : Int) then (pull_Rank.l0 k l3 bt109.1 0 ((l3.drop 1).length : Int) 0 t101 bt109.2.1 bt109.2.2) else (none))) else (some (0, 2)))) else (some (0, t104))) = some (r1, r2) := H
  have A5 := Aside0.mk A50
  clear A50
  by_cases c6 : t104 = 0
  rotate_left
  · rw [if_neg c6] at H
    have c6b0 : (t104 == 0) = false := beq_eq_false_iff_ne.mpr c6
    have c6b1 : (t104 != 0) = true := bne_iff_ne.mpr c6
    have NE105 := Aside0.mk (show ¬ (t104 = 0) from by first | assumption | exact beq_eq_false_iff_ne.mp (by assumption))
    simp only [Option.some.injEq, Prod.mk.injEq] at H
    obtain ⟨rfl, rfl⟩ := H
    go_enter Try.func36, Try.ntmps36
    go_wp2_with (first | ((with_reducible refine gate_callee (f := 58) rfl ?_); refine goesL_ (some 22) rfl rfl Try.func58 (by kernel_rfl) rfl #[.slice A0 l0.length c0, .int .i64 a1, .int .i64 a2] rfl (by (try simp only [List.map_toArray, List.map_cons, List.map_nil]); first | done | rfl | (simp only [List.length_drop, List.length_take]; rfl)) ?_; (with_reducible refine (pull_open.calls_err k _ _ l0 a1 a2 t101 t102 t103 t104 _ ?side1 ?side2 A5.out NE105.out).mono ?_); (case side1 => repeat (first | exact HR0.out | (with_reducible refine Kd.C_alloc ?_ _) | (with_reducible refine Kd.C_drewN ?_ _) | (with_reducible refine Kd.C_drew ?_))); (case side2 => exact HC0.out); rintro e w33 ⟨rfl, hb⟩; refine ⟨_, rfl, ?_⟩; have n0_ := Aside0.mk (below_step (by repeat (first | (with_reducible first | exact HB.out | apply below_alloc | apply pw_below_drewN | apply below_drew1) | exact HB.out)) hb); clear HB; have HB := n0_; clear n0_; (try clear hb); (try clear hb2); (try clear hk); (try clear hi)))
    go_ret2
    exact ⟨by first | rfl | (simp [errW_none, errW_some] <;> rfl) | (simp [*, errW_none, errW_some] <;> rfl), by repeat (first | (with_reducible first | exact HB.out | apply below_alloc | apply pw_below_drewN | apply below_drew1) | exact HB.out)⟩

  rw [if_pos c6] at H
  have c6b0 : (t104 == 0) = true := beq_iff_eq.mpr c6
  have c6b1 : (t104 != 0) = false := bne_eq_false_iff_eq.mpr c6
  clear c6
  have NE105 := Aside0.mk (show t104 = 0 from by first | assumption | rfl | exact beq_iff_eq.mp (by assumption))
  replace H := Option.bind_eq_some_iff.mp H
  obtain ⟨⟨t106, t107, t108⟩, A70, H⟩ := H
  replace H : (if t106 = true then ((pull_layout_numbers.f k t101 t107 t108).bind fun bt109 => (if 1 ≤ (l3.length : Int) then (pull_Rank.l0 k l3 bt109.1 0 ((l3.drop 1).length : Int) 0 t101 bt109.2.1 bt109.2.2) else (none))) else (some (0, 2))) = some (r1, r2) := H
  have A7 := Aside0.mk A70
  clear A70
  by_cases c8 : t106 = true
  rotate_left
  · replace c8 := Bool.eq_false_iff.mpr c8
    subst c8
    have H1 : (some (0, 2)) = some (r1, r2) := by rw [if_neg (show ¬ (false = true) by decide)] at H; exact H
    clear H
    have H := H1
    clear H1
    simp only [Option.some.injEq, Prod.mk.injEq] at H
    obtain ⟨rfl, rfl⟩ := H
    go_enter Try.func36, Try.ntmps36
    go_wp2_with (first | ((with_reducible refine gate_callee (f := 58) rfl ?_); refine goesL_ (some 22) rfl rfl Try.func58 (by kernel_rfl) rfl #[.slice A0 l0.length c0, .int .i64 a1, .int .i64 a2] rfl (by (try simp only [List.map_toArray, List.map_cons, List.map_nil]); first | done | rfl | (simp only [List.length_drop, List.length_take]; rfl)) ?_; (with_reducible refine (pull_open.calls_ok k _ _ l0 a1 a2 t101 t102 t103 t104 w _ ?side1 ?side2 ?side3 A5.out NE105.out).mono ?_); (case side1 => repeat (first | (with_reducible first | exact HB.out | apply below_alloc | apply pw_below_drewN | apply below_drew1) | exact HB.out)); (case side2 => exact HR0.out); (case side3 => exact HC0.out); rintro e w31 ⟨g105, rfl, hi, hb, hb2⟩; refine ⟨_, rfl, ?_⟩; have n0_ := Aside0.mk (hb); have n1_ := Aside0.mk (hi); clear HB; have HB := n0_; have HI105 := n1_; clear n0_ n1_; (try clear hb); (try clear hb2); (try clear hk); (try clear hi)) | ((with_reducible refine gate_callee (f := 74) rfl ?_); refine goesL_ (some 32) rfl rfl Try.func74 (by kernel_rfl) rfl #[.pointer (some ⟨g105, 0, none⟩), .slice A3 l3.length c3] rfl (by (try simp only [List.map_toArray, List.map_cons, List.map_nil]); first | done | rfl | (simp only [List.length_drop, List.length_take]; rfl)) ?_; (with_reducible refine (pull_layout_isPlan.calls k g105 t101 t102 t103 _ _ l3 false t107 t108 w _ ?side1 ?side2 ?side3 ?side4 ?side5 A7.out).mono ?_); (case side1 => repeat (first | (with_reducible first | exact HI105.out | apply IsS84.alloc | apply IsS84.drewN | apply IsS84.drew | apply IsS84.set_1 | apply IsS84.set_2) | exact HI105.out)); (case side2 => repeat (first | (with_reducible first | exact HB.out | apply below_alloc | apply pw_below_drewN | apply below_drew1 | refine below_set ?_ (IsS84.ge HI105.out)) | exact HB.out)); (case side3 => repeat (first | exact (Kd.C_below HR3.out HB.out) | (with_reducible refine Kd.C_alloc ?_ _) | (with_reducible refine Kd.C_drewN ?_ _) | (with_reducible refine Kd.C_drew ?_))); (case side4 => exact HC3.out); (case side5 => exact Kd.far_C 0 HR3.out (IsS84.ge HI105.out)); rintro e w32 ⟨rfl, hi, hb, hk⟩; refine ⟨_, rfl, ?_⟩; have n0_ := Aside0.mk (hb); have n1_ := Aside0.mk (hi); clear HB; clear HI105; have HB := n0_; have HI105 := n1_; clear n0_ n1_; (try clear hb); (try clear hb2); (try clear hk); (try clear hi)))
    go_ret2
    exact ⟨by first | rfl | (simp [errW_none, errW_some] <;> rfl) | (simp [*, errW_none, errW_some] <;> rfl), by repeat (first | (with_reducible first | exact HB.out | apply below_alloc | apply pw_below_drewN | apply below_drew1 | refine below_set ?_ (IsS84.ge HI105.out)) | exact HB.out)⟩
  subst c8
  have H1 : ((pull_layout_numbers.f k t101 t107 t108).bind fun bt109 => (if 1 ≤ (l3.length : Int) then (pull_Rank.l0 k l3 bt109.1 0 ((l3.drop 1).length : Int) 0 t101 bt109.2.1 bt109.2.2) else (none))) = some (r1, r2) := by rw [if_pos rfl] at H; exact H
  clear H
  have H := H1
  clear H1
  replace H := Option.bind_eq_some_iff.mp H
  obtain ⟨⟨t109, t112, t113⟩, A90, H⟩ := H
  replace H : (if 1 ≤ (l3.length : Int) then (pull_Rank.l0 k l3 t109 0 ((l3.drop 1).length : Int) 0 t101 t112 t113) else (none)) = some (r1, r2) := H
  have A9 := Aside0.mk A90
  clear A90
  by_cases c10 : 1 ≤ (l3.length : Int)
  rotate_left
  · rw [if_neg c10] at H
    exact absurd H (by simp)
  rw [if_pos c10] at H
  have c10b0 := eq_true c10
  have c10b1 : decide (1 ≤ (l3.length : Int)) = true := decide_eq_true c10
  clear c10
  have H' := Aside0.mk H
  clear H
  go_enter Try.func36, Try.ntmps36
  go_wp2_with (first | ((with_reducible refine gate_callee (f := 58) rfl ?_); refine goesL_ (some 22) rfl rfl Try.func58 (by kernel_rfl) rfl #[.slice A0 l0.length c0, .int .i64 a1, .int .i64 a2] rfl (by (try simp only [List.map_toArray, List.map_cons, List.map_nil]); first | done | rfl | (simp only [List.length_drop, List.length_take]; rfl)) ?_; (with_reducible refine (pull_open.calls_ok k _ _ l0 a1 a2 t101 t102 t103 t104 w _ ?side1 ?side2 ?side3 A5.out NE105.out).mono ?_); (case side1 => repeat (first | (with_reducible first | exact HB.out | apply below_alloc | apply pw_below_drewN | apply below_drew1) | exact HB.out)); (case side2 => exact HR0.out); (case side3 => exact HC0.out); rintro e w11 ⟨g105, rfl, hi, hb, hb2⟩; refine ⟨_, rfl, ?_⟩; have n0_ := Aside0.mk (hb); have n1_ := Aside0.mk (hi); clear HB; have HB := n0_; have HI105 := n1_; clear n0_ n1_; (try clear hb); (try clear hb2); (try clear hk); (try clear hi)) | ((with_reducible refine gate_callee (f := 74) rfl ?_); refine goesL_ (some 32) rfl rfl Try.func74 (by kernel_rfl) rfl #[.pointer (some ⟨g105, 0, none⟩), .slice A3 l3.length c3] rfl (by (try simp only [List.map_toArray, List.map_cons, List.map_nil]); first | done | rfl | (simp only [List.length_drop, List.length_take]; rfl)) ?_; (with_reducible refine (pull_layout_isPlan.calls k g105 t101 t102 t103 _ _ l3 true t107 t108 w _ ?side1 ?side2 ?side3 ?side4 ?side5 A7.out).mono ?_); (case side1 => repeat (first | (with_reducible first | exact HI105.out | apply IsS84.alloc | apply IsS84.drewN | apply IsS84.drew | apply IsS84.set_1 | apply IsS84.set_2) | exact HI105.out)); (case side2 => repeat (first | (with_reducible first | exact HB.out | apply below_alloc | apply pw_below_drewN | apply below_drew1 | refine below_set ?_ (IsS84.ge HI105.out)) | exact HB.out)); (case side3 => repeat (first | exact (Kd.C_below HR3.out HB.out) | (with_reducible refine Kd.C_alloc ?_ _) | (with_reducible refine Kd.C_drewN ?_ _) | (with_reducible refine Kd.C_drew ?_))); (case side4 => exact HC3.out); (case side5 => exact Kd.far_C 0 HR3.out (IsS84.ge HI105.out)); rintro e w12 ⟨rfl, hi, hb, hk⟩; refine ⟨_, rfl, ?_⟩; have n0_ := Aside0.mk (hb); have n1_ := Aside0.mk (hi); clear HB; clear HI105; have HB := n0_; have HI105 := n1_; clear n0_ n1_; (try clear hb); (try clear hb2); (try clear hk); (try clear hi)) | ((with_reducible refine gate_callee (f := 59) rfl ?_); refine goesL_ (some 35) rfl rfl Try.func59 (by kernel_rfl) rfl #[.pointer (some ⟨g105, 0, none⟩)] rfl (by (try simp only [List.map_toArray, List.map_cons, List.map_nil]); first | done | rfl | (simp only [List.length_drop, List.length_take]; rfl)) ?_; (with_reducible refine (pull_layout_numbers.calls k g105 t101 t107 t108 t109 t112 t113 w _ ?side1 ?side2 A9.out).mono ?_); (case side1 => repeat (first | (with_reducible first | exact HI105.out | apply IsS84.alloc | apply IsS84.drewN | apply IsS84.drew | apply IsS84.set_1 | apply IsS84.set_2) | exact HI105.out)); (case side2 => repeat (first | (with_reducible first | exact HB.out | apply below_alloc | apply pw_below_drewN | apply below_drew1 | refine below_set ?_ (IsS84.ge HI105.out)) | exact HB.out)); rintro e w13 ⟨v110, rfl, ho0, hi, hb, hk⟩; refine ⟨_, rfl, ?_⟩; have n0_ := Aside0.mk (Kd.R_lower ho0 (below_size (by repeat (first | (with_reducible first | exact HB.out | apply below_alloc | apply pw_below_drewN | apply below_drew1 | refine below_set ?_ (IsS84.ge HI105.out)) | exact HB.out)))); have n1_ := Aside0.mk (hb); have n2_ := Aside0.mk (hi); clear HB; clear HI105; have HO111 := n0_; have HB := n1_; have HI105 := n2_; clear n0_ n1_ n2_; (try clear hb); (try clear hb2); (try clear hk); (try clear hi); (try clear ho0); obtain ⟨i014, hi014, _, hsz14, _⟩ := info_parts info3; obtain ⟨A14, hcut14, hA14, hC14⟩ := print_drop_of (P := Try.prog) (Value.int .i64) 0 37 3 .i64 Try.underlying37 hi014 hsz14 A3 c3 l3 1 (by omega) (of_decide_eq_true (by first | (with_reducible assumption) | assumption)) HC3.out; have HR114 := Aside0.mk (Kd.C_of_reads (h1 := fun _ => rfl) (hA14 _ (Kd.reads_of_C HR3.out))); have HC114 := Aside0.mk hC14; clear hA14 hC14 hi014 hsz14))
  go_loopg [13, 39] k (fun kq v13 v39 w' => ∃ (x13_1 : Int) (x39_1 : Int) (x106001_1 : Int) (x106002_1 : Int), v13 = .int .i64 x13_1 ∧ v39 = .int .i64 x39_1 ∧ Aside0 (pull_Rank.l0 kq l3 t109 x13_1 ((l3.drop 1).length : Int) x39_1 t101 x106001_1 x106002_1 = some (r1, r2)) ∧ Aside0 (kq ≤ k) ∧ Aside0 (Kd.R (Kd.int .i64) 3 w' w.heap.size (fun _ => True) v110 t109) ∧ Aside0 (IsS84 w w' g105 t101 x106001_1 x106002_1) ∧ Aside0 (Below w.heap.size w w'))
  case atStart => exact ⟨(0), (0), (t112), (t113), (by first | rfl | (simp; done) | (simp [*]; done)), (by first | rfl | (simp; done) | (simp [*]; done)), H', ⟨Nat.le_refl _⟩, ⟨by (with_reducible repeat (first | apply Kd.R_alloc | apply Kd.R_drewN | apply Kd.R_drew)); exact HO111.out⟩, ⟨by repeat (first | (with_reducible first | exact HI105.out | apply IsS84.alloc | apply IsS84.drewN | apply IsS84.drew | apply IsS84.set_1 | apply IsS84.set_2) | exact HI105.out)⟩, ⟨by repeat (first | (with_reducible first | exact HB.out | apply below_alloc | apply pw_below_drewN | apply below_drew1 | refine below_set ?_ (IsS84.ge HI105.out)) | exact HB.out)⟩⟩
  case round =>
    clear H'
    try clear c1
    try clear p2
    try clear c3
    try clear c5
    try clear c6
    try clear c6b0
    try clear c6b1
    try clear c7
    try clear c8
    try clear c10
    try clear c10b0
    try clear c10b1
    obtain ⟨x13_1, x39_1, x106001_1, x106002_1, rfl, rfl, HA, HK1, HO_12, HI105, HB⟩ := hrel
    cases gk with
    | zero => exact absurd HA.out (by simp [pull_Rank.l0])
    | succ k1 =>
      have H := HA.out
      clear HA
      simp only [pull_Rank.l0] at H
      by_cases c15 : x39_1 < ((l3.drop 1).length : Int)
      rotate_left
      · rw [if_neg c15] at H
        have c15b0 : decide (x39_1 < ((l3.drop 1).length : Int)) = false := decide_eq_false c15
        (try (have c15b0d := c15b0; simp only [List.length_drop, List.length_take] at c15b0d))
        clear c15
        simp only [Option.some.injEq, Prod.mk.injEq] at H
        obtain ⟨rfl, rfl⟩ := H
        go_wp2
        go_ret2
        exact ⟨by first | rfl | (simp [errW_none, errW_some] <;> rfl) | (simp [*, errW_none, errW_some] <;> rfl), by repeat (first | (with_reducible first | exact HB.out | apply below_alloc | apply pw_below_drewN | apply below_drew1 | refine below_set ?_ (IsS84.ge HI105.out)) | exact HB.out)⟩
      rw [if_pos c15] at H
      have c15b0 : decide (x39_1 < ((l3.drop 1).length : Int)) = true := decide_eq_true c15
      (try (have c15b0d := c15b0; simp only [List.length_drop, List.length_take] at c15b0d))
      clear c15
      by_cases c16 : 0 ≤ x39_1
      rotate_left
      · rw [if_neg c16] at H
        exact absurd H (by simp)
      rw [if_pos c16] at H
      have c16b0 : decide (0 ≤ x39_1) = true := decide_eq_true c16
      clear c16
      by_cases c17 : x39_1 < (l3.length : Int)
      rotate_left
      · rw [if_neg c17] at H
        exact absurd H (by simp)
      rw [if_pos c17] at H
      have c17b0 : decide (x39_1 < (l3.length : Int)) = true := decide_eq_true c17
      clear c17
      have H' := Aside0.mk H
      clear H
      have p115 : 0 ≤ (x39_1 : Int) := of_decide_eq_true (by first | (with_reducible assumption) | assumption)
      have q115 : x39_1 < (l3.length : Int) := of_decide_eq_true (by first | (with_reducible assumption) | assumption)
      obtain ⟨ad115, e115, hx115_0⟩ := Kd.at_int HR3.out x39_1 p115 q115
      cases e115
      replace hx115_0 := (HB.out.cell (World.block_lt_of_cell? w _ hx115_0)).trans hx115_0
      replace p115 := eq_true p115
      replace q115 := eq_true q115
      go_wp2
      go_loopg [13, 15] k1 (fun kq v13 v15 w' => ∃ (x13_2 : Int) (x15_2 : Int) (x106001_2 : Int) (x106002_2 : Int), v13 = .int .i64 x13_2 ∧ v15 = .int .i64 x15_2 ∧ Aside0 (pull_Rank.l1 kq l3 t109 x13_2 x39_1 x15_2 ((l3.drop 1).length : Int) x39_1 t101 x106001_2 x106002_2 = some (r1, r2)) ∧ Aside0 (kq ≤ k1) ∧ Aside0 (Kd.R (Kd.int .i64) 3 w' w.heap.size (fun _ => True) v110 t109) ∧ Aside0 (IsS84 w w' g105 t101 x106001_2 x106002_2) ∧ Aside0 (Below w.heap.size w w'))
      case atStart => exact ⟨(x13_1), (wrap64 ((rd l3 x39_1) + 1)), (x106001_1), (x106002_1), (by first | rfl | (simp; done) | (simp [*]; done)), (by first | rfl | (simp; done) | (simp [*]; done)), H', ⟨Nat.le_refl _⟩, ⟨by (with_reducible repeat (first | apply Kd.R_alloc | apply Kd.R_drewN | apply Kd.R_drew)); exact HO_12.out⟩, ⟨by repeat (first | (with_reducible first | exact HI105.out | apply IsS84.alloc | apply IsS84.drewN | apply IsS84.drew | apply IsS84.set_1 | apply IsS84.set_2) | exact HI105.out)⟩, ⟨by repeat (first | (with_reducible first | exact HB.out | apply below_alloc | apply pw_below_drewN | apply below_drew1 | refine below_set ?_ (IsS84.ge HI105.out)) | exact HB.out)⟩⟩
      case round =>
        clear H'
        try clear c1
        try clear p1
        try clear q1
        try clear hx1
        try clear p2
        try clear c3
        try clear c5
        try clear c6
        try clear c6b0
        try clear c6b1
        try clear p6
        try clear c7
        try clear c8
        try clear c10
        try clear c10b0
        try clear c10b1
        try clear p11
        try clear q11
        try clear hx11
        try clear c15
        try clear c15b0
        try clear c16
        try clear c16b0
        try clear c17
        try clear c17b0
        try clear hx115_0
        try clear p115
        try clear p2
        try clear q115
        obtain ⟨x13_2, x15_2, x106001_2, x106002_2, rfl, rfl, HA, HK2, HO_12, HI105, HB⟩ := hrel
        cases gk with
        | zero => exact absurd HA.out (by simp [pull_Rank.l1])
        | succ k2 =>
          have H := HA.out
          clear HA
          simp only [pull_Rank.l1] at H
          obtain ⟨ji18, hji18⟩ : ∃ j_ : Int, (wrap64 (x39_1 + 1)) = j_ := ⟨_, rfl⟩
          replace H : (if 0 ≤ (ji18) then (if (ji18) < (l3.length : Int) then (if x15_2 < (rd l3 (ji18)) then (if 0 ≤ x39_1 then (if x39_1 < (l3.length : Int) then ((pull_layout_length.f t101 x106001_2 x106002_2 (rd l3 x39_1) x15_2).bind fun bt118 => (if bt118.2.1 = true then (if 0 ≤ x15_2 then (if x15_2 < (t109.length : Int) then (pull_Rank.l1 k2 l3 t109 (wrap64 (x13_2 + (rd t109 x15_2))) x39_1 (wrap64 (x15_2 + 1)) ((l3.drop 1).length : Int) x39_1 t101 bt118.2.2.1 bt118.2.2.2) else (none)) else (none)) else (pull_Rank.l1 k2 l3 t109 x13_2 x39_1 (wrap64 (x15_2 + 1)) ((l3.drop 1).length : Int) x39_1 t101 bt118.2.2.1 bt118.2.2.2))) else (none)) else (none)) else (pull_Rank.l0 k2 l3 t109 x13_2 ((l3.drop 1).length : Int) ji18 t101 x106001_2 x106002_2)) else (none)) else (none)) = some (r1, r2) := by first | (rw [hji18] at H; exact H) | (simp only [hji18] at H ⊢; exact H)
          have hji18w : (IntKind.i64.wrap (x39_1 + 1)) = ji18 := (i64_w _).trans hji18
          by_cases c19 : 0 ≤ (ji18)
          rotate_left
          · rw [if_neg c19] at H
            exact absurd H (by simp)
          rw [if_pos c19] at H
          have c19b0 : decide (0 ≤ (ji18)) = true := decide_eq_true c19
          clear c19
          by_cases c20 : (ji18) < (l3.length : Int)
          rotate_left
          · rw [if_neg c20] at H
            exact absurd H (by simp)
          rw [if_pos c20] at H
          have c20b0 : decide ((ji18) < (l3.length : Int)) = true := decide_eq_true c20
          clear c20
          by_cases c21 : x15_2 < (rd l3 (ji18))
          rotate_left
          · rw [if_neg c21] at H
            have c21b0 : decide (x15_2 < (rd l3 (ji18))) = false := decide_eq_false c21
            clear c21
            have H' := Aside0.mk H
            clear H
            have p116 : 0 ≤ ((ji18) : Int) := of_decide_eq_true (by first | (with_reducible assumption) | assumption)
            have q116 : (ji18) < (l3.length : Int) := of_decide_eq_true (by first | (with_reducible assumption) | assumption)
            obtain ⟨ad116, e116, hx116_0⟩ := Kd.at_int HR3.out (ji18) p116 q116
            obtain rfl : ad115 = ad116 := (by injection e116)
            replace hx116_0 := (HB.out.cell (World.block_lt_of_cell? w _ hx116_0)).trans hx116_0
            replace p116 := eq_true p116
            replace q116 := eq_true q116
            go_wp2
            go_roundg k2
            case measure => have := HK1.out; have := HK2.out; omega
            case rel => exact ⟨(x13_2), (ji18), (x106001_2), (x106002_2), (by first | rfl | (simp; done) | (simp [*]; done)), (by first | rfl | (simp; done) | (simp only [← hji18] <;> (first | rfl | simp)) | (simp [*]; done)), H', ⟨by have := HK1.out; have := HK2.out; omega⟩, ⟨by (with_reducible repeat (first | apply Kd.R_alloc | apply Kd.R_drewN | apply Kd.R_drew)); exact HO_12.out⟩, ⟨by repeat (first | (with_reducible first | exact HI105.out | apply IsS84.alloc | apply IsS84.drewN | apply IsS84.drew | apply IsS84.set_1 | apply IsS84.set_2) | exact HI105.out)⟩, ⟨by repeat (first | (with_reducible first | exact HB.out | apply below_alloc | apply pw_below_drewN | apply below_drew1 | refine below_set ?_ (IsS84.ge HI105.out)) | exact HB.out)⟩⟩
          rw [if_pos c21] at H
          have c21b0 : decide (x15_2 < (rd l3 (ji18))) = true := decide_eq_true c21
          clear c21
          by_cases c22 : 0 ≤ x39_1
          rotate_left
          · rw [if_neg c22] at H
            exact absurd H (by simp)
          rw [if_pos c22] at H
          have c22b0 : decide (0 ≤ x39_1) = true := decide_eq_true c22
          clear c22
          by_cases c23 : x39_1 < (l3.length : Int)
          rotate_left
          · rw [if_neg c23] at H
            exact absurd H (by simp)
          rw [if_pos c23] at H
          have c23b0 : decide (x39_1 < (l3.length : Int)) = true := decide_eq_true c23
          clear c23
          replace H := Option.bind_eq_some_iff.mp H
          obtain ⟨⟨t118, t119, t120, t121⟩, A240, H⟩ := H
          replace H : (if t119 = true then (if 0 ≤ x15_2 then (if x15_2 < (t109.length : Int) then (pull_Rank.l1 k2 l3 t109 (wrap64 (x13_2 + (rd t109 x15_2))) x39_1 (wrap64 (x15_2 + 1)) ((l3.drop 1).length : Int) x39_1 t101 t120 t121) else (none)) else (none)) else (pull_Rank.l1 k2 l3 t109 x13_2 x39_1 (wrap64 (x15_2 + 1)) ((l3.drop 1).length : Int) x39_1 t101 t120 t121)) = some (r1, r2) := H
          have A24 := Aside0.mk A240
          clear A240
          by_cases c25 : t119 = true
          rotate_left
          · replace c25 := Bool.eq_false_iff.mpr c25
            subst c25
            have H1 : (pull_Rank.l1 k2 l3 t109 x13_2 x39_1 (wrap64 (x15_2 + 1)) ((l3.drop 1).length : Int) x39_1 t101 t120 t121) = some (r1, r2) := by rw [if_neg (show ¬ (false = true) by decide)] at H; exact H
            clear H
            have H := H1
            clear H1
            have H' := Aside0.mk H
            clear H
            have p116 : 0 ≤ ((ji18) : Int) := of_decide_eq_true (by first | (with_reducible assumption) | assumption)
            have q116 : (ji18) < (l3.length : Int) := of_decide_eq_true (by first | (with_reducible assumption) | assumption)
            obtain ⟨ad116, e116, hx116_0⟩ := Kd.at_int HR3.out (ji18) p116 q116
            obtain rfl : ad115 = ad116 := (by injection e116)
            replace hx116_0 := (HB.out.cell (World.block_lt_of_cell? w _ hx116_0)).trans hx116_0
            replace p116 := eq_true p116
            replace q116 := eq_true q116
            have p117 : 0 ≤ (x39_1 : Int) := of_decide_eq_true (by first | (with_reducible assumption) | assumption)
            have q117 : x39_1 < (l3.length : Int) := of_decide_eq_true (by first | (with_reducible assumption) | assumption)
            obtain ⟨ad117, e117, hx117_0⟩ := Kd.at_int HR3.out x39_1 p117 q117
            obtain rfl : ad115 = ad117 := (by injection e117)
            replace hx117_0 := (HB.out.cell (World.block_lt_of_cell? w _ hx117_0)).trans hx117_0
            replace p117 := eq_true p117
            replace q117 := eq_true q117
            go_wp2_with (first | ((with_reducible refine gate_callee (f := 75) rfl ?_); refine goesL_ (some 63) rfl rfl Try.func75 (by kernel_rfl) rfl #[.pointer (some ⟨g105, 0, none⟩), .int .i64 (rd l3 x39_1), .int .i64 x15_2] rfl (by (try simp only [List.map_toArray, List.map_cons, List.map_nil]); first | done | rfl | (simp only [List.length_drop, List.length_take]; rfl)) ?_; (with_reducible refine (pull_layout_length.calls g105 t101 x106001_2 x106002_2 (rd l3 x39_1) x15_2 t118 false t120 t121 w _ ?side1 ?side2 A24.out).mono ?_); (case side1 => repeat (first | (with_reducible first | exact HI105.out | apply IsS84.alloc | apply IsS84.drewN | apply IsS84.drew | apply IsS84.set_1 | apply IsS84.set_2) | exact HI105.out)); (case side2 => repeat (first | (with_reducible first | exact HB.out | apply below_alloc | apply pw_below_drewN | apply below_drew1 | refine below_set ?_ (IsS84.ge HI105.out)) | exact HB.out)); rintro e w30 ⟨rfl, hi, hb, hk⟩; refine ⟨_, rfl, ?_⟩; have n0_ := Aside0.mk (Kd.R_mono (Kd.R_keep (IsS84.apart (show IsS84 w _ g105 t101 x106001_2 x106002_2 from by repeat (first | (with_reducible first | exact HI105.out | apply IsS84.alloc | apply IsS84.drewN | apply IsS84.drew | apply IsS84.set_1 | apply IsS84.set_2) | exact HI105.out)) (by (with_reducible repeat (first | apply Kd.R_alloc | apply Kd.R_drewN | apply Kd.R_drew)); exact HO_12.out) (by decide)) hk (fun _ h => h.2)) (fun _ h => h.1)); have n1_ := Aside0.mk (hb); have n2_ := Aside0.mk (hi); clear HO_12; clear HB; clear HI105; have HO_12 := n0_; have HB := n1_; have HI105 := n2_; clear n0_ n1_ n2_; (try clear hb); (try clear hb2); (try clear hk); (try clear hi)))
            go_roundg k2
            case measure => have := HK1.out; have := HK2.out; omega
            case rel => exact ⟨(x13_2), (wrap64 (x15_2 + 1)), (t120), (t121), (by first | rfl | (simp; done) | (simp [*]; done)), (by first | rfl | (simp; done) | (simp [*]; done)), H', ⟨by have := HK1.out; have := HK2.out; omega⟩, ⟨by (with_reducible repeat (first | apply Kd.R_alloc | apply Kd.R_drewN | apply Kd.R_drew)); exact HO_12.out⟩, ⟨by repeat (first | (with_reducible first | exact HI105.out | apply IsS84.alloc | apply IsS84.drewN | apply IsS84.drew | apply IsS84.set_1 | apply IsS84.set_2) | exact HI105.out)⟩, ⟨by repeat (first | (with_reducible first | exact HB.out | apply below_alloc | apply pw_below_drewN | apply below_drew1 | refine below_set ?_ (IsS84.ge HI105.out)) | exact HB.out)⟩⟩
          subst c25
          have H1 : (if 0 ≤ x15_2 then (if x15_2 < (t109.length : Int) then (pull_Rank.l1 k2 l3 t109 (wrap64 (x13_2 + (rd t109 x15_2))) x39_1 (wrap64 (x15_2 + 1)) ((l3.drop 1).length : Int) x39_1 t101 t120 t121) else (none)) else (none)) = some (r1, r2) := by rw [if_pos rfl] at H; exact H
          clear H
          have H := H1
          clear H1
          by_cases c26 : 0 ≤ x15_2
          rotate_left
          · rw [if_neg c26] at H
            exact absurd H (by simp)
          rw [if_pos c26] at H
          have c26b0 : decide (0 ≤ x15_2) = true := decide_eq_true c26
          clear c26
          by_cases c27 : x15_2 < (t109.length : Int)
          rotate_left
          · rw [if_neg c27] at H
            exact absurd H (by simp)
          rw [if_pos c27] at H
          have c27b0 : decide (x15_2 < (t109.length : Int)) = true := decide_eq_true c27
          clear c27
          have H' := Aside0.mk H
          clear H
          have p116 : 0 ≤ ((ji18) : Int) := of_decide_eq_true (by first | (with_reducible assumption) | assumption)
          have q116 : (ji18) < (l3.length : Int) := of_decide_eq_true (by first | (with_reducible assumption) | assumption)
          obtain ⟨ad116, e116, hx116_0⟩ := Kd.at_int HR3.out (ji18) p116 q116
          obtain rfl : ad115 = ad116 := (by injection e116)
          replace hx116_0 := (HB.out.cell (World.block_lt_of_cell? w _ hx116_0)).trans hx116_0
          replace p116 := eq_true p116
          replace q116 := eq_true q116
          have p117 : 0 ≤ (x39_1 : Int) := of_decide_eq_true (by first | (with_reducible assumption) | assumption)
          have q117 : x39_1 < (l3.length : Int) := of_decide_eq_true (by first | (with_reducible assumption) | assumption)
          obtain ⟨ad117, e117, hx117_0⟩ := Kd.at_int HR3.out x39_1 p117 q117
          obtain rfl : ad115 = ad117 := (by injection e117)
          replace hx117_0 := (HB.out.cell (World.block_lt_of_cell? w _ hx117_0)).trans hx117_0
          replace p117 := eq_true p117
          replace q117 := eq_true q117
          go_wp2_with (first | ((with_reducible refine gate_callee (f := 75) rfl ?_); refine goesL_ (some 63) rfl rfl Try.func75 (by kernel_rfl) rfl #[.pointer (some ⟨g105, 0, none⟩), .int .i64 (rd l3 x39_1), .int .i64 x15_2] rfl (by (try simp only [List.map_toArray, List.map_cons, List.map_nil]); first | done | rfl | (simp only [List.length_drop, List.length_take]; rfl)) ?_; (with_reducible refine (pull_layout_length.calls g105 t101 x106001_2 x106002_2 (rd l3 x39_1) x15_2 t118 true t120 t121 w _ ?side1 ?side2 A24.out).mono ?_); (case side1 => repeat (first | (with_reducible first | exact HI105.out | apply IsS84.alloc | apply IsS84.drewN | apply IsS84.drew | apply IsS84.set_1 | apply IsS84.set_2) | exact HI105.out)); (case side2 => repeat (first | (with_reducible first | exact HB.out | apply below_alloc | apply pw_below_drewN | apply below_drew1 | refine below_set ?_ (IsS84.ge HI105.out)) | exact HB.out)); rintro e w28 ⟨rfl, hi, hb, hk⟩; refine ⟨_, rfl, ?_⟩; have n0_ := Aside0.mk (Kd.R_mono (Kd.R_keep (IsS84.apart (show IsS84 w _ g105 t101 x106001_2 x106002_2 from by repeat (first | (with_reducible first | exact HI105.out | apply IsS84.alloc | apply IsS84.drewN | apply IsS84.drew | apply IsS84.set_1 | apply IsS84.set_2) | exact HI105.out)) (by (with_reducible repeat (first | apply Kd.R_alloc | apply Kd.R_drewN | apply Kd.R_drew)); exact HO_12.out) (by decide)) hk (fun _ h => h.2)) (fun _ h => h.1)); have n1_ := Aside0.mk (hb); have n2_ := Aside0.mk (hi); clear HO_12; clear HB; clear HI105; have HO_12 := n0_; have HB := n1_; have HI105 := n2_; clear n0_ n1_ n2_; (try clear hb); (try clear hb2); (try clear hk); (try clear hi); obtain ⟨Ao29, co29, eo29⟩ := Kd.R_slice HO_12.out; subst eo29; have p122 : 0 ≤ (x15_2 : Int) := of_decide_eq_true (by first | (with_reducible assumption) | assumption); have q122 : x15_2 < (t109.length : Int) := of_decide_eq_true (by first | (with_reducible assumption) | assumption); obtain ⟨ad122, e122, hx122_0⟩ := Kd.at_int (Kd.R_reads' HO_12.out).2.2 x15_2 p122 q122; cases e122; replace p122 := eq_true p122; replace q122 := eq_true q122))
          go_roundg k2
          case measure => have := HK1.out; have := HK2.out; omega
          case rel => exact ⟨(wrap64 (x13_2 + (rd t109 x15_2))), (wrap64 (x15_2 + 1)), (t120), (t121), (by first | rfl | (simp; done) | (simp [*]; done)), (by first | rfl | (simp; done) | (simp [*]; done)), H', ⟨by have := HK1.out; have := HK2.out; omega⟩, ⟨by (with_reducible repeat (first | apply Kd.R_alloc | apply Kd.R_drewN | apply Kd.R_drew)); exact HO_12.out⟩, ⟨by repeat (first | (with_reducible first | exact HI105.out | apply IsS84.alloc | apply IsS84.drewN | apply IsS84.drew | apply IsS84.set_1 | apply IsS84.set_2) | exact HI105.out)⟩, ⟨by repeat (first | (with_reducible first | exact HB.out | apply below_alloc | apply pw_below_drewN | apply below_drew1 | refine below_set ?_ (IsS84.ge HI105.out)) | exact HB.out)⟩⟩
end Go.Proofs.Ytiebfmenkpodeaa.G
