-- Written by this session's driver (wip/tools/printmore.py) over the kit's print, with hand-written parts.
import Derived.Test.YtiebfmenkpodeaaGBase
import Derived.Test.YtiebfmenkpodeaaGF29
import Derived.Test.YtiebfmenkpodeaaGF62
import Derived.Test.YtiebfmenkpodeaaGF60
import Derived.Test.YtiebfmenkpodeaaGF79
namespace Go.Proofs.Ytiebfmenkpodeaa.G
open Go.RowKit Go.Proofs.YtiebfmenkpodeaaW.PrintWords Go.Proofs.YtiebfmenkpodeaaW.PrintLast Go.Proofs.YtiebfmenkpodeaaW.PrintMore
attribute [local go_sem] max2_int min2_int max_two min_two max_three min_three max_four min_four   -- for this text's walks alone
set_option linter.unusedVariables false
set_option linter.unusedSimpArgs false

/-! ### dropperref04_Rank: function 45 -/
mutual
def dropperref04_Rank.l0 : Nat → List Int → Int → Int → List Int → List Int → Int → Int → Option (Int × Int)
  | 0, _, _, _, _, _, _, _ => none
  | k + 1, x0, x1, x2, x3, x10, x11, x12 => if x12 < (x3.length : Int) then (if 0 ≤ (wrap64 (x12 - 1)) then (if (wrap64 (x12 - 1)) < (x3.length : Int) then (dropperref04_Rank.l1 k x0 x1 x2 x3 x10 x11 x12 (wrap64 ((rd x3 (wrap64 (x12 - 1))) + 1))) else (none)) else (none)) else (some (x11, 0))
def dropperref04_Rank.l1 : Nat → List Int → Int → Int → List Int → List Int → Int → Int → Int → Option (Int × Int)
  | 0, _, _, _, _, _, _, _, _ => none
  | k + 1, x0, x1, x2, x3, x10, x11, x12, x13 => if 0 ≤ x12 then (if x12 < (x3.length : Int) then (if x13 < (rd x3 x12) then (if 0 ≤ (wrap64 (x12 - 1)) then (if (wrap64 (x12 - 1)) < (x3.length : Int) then ((dropperref04_may.f x0 x1 x2 (rd x3 (wrap64 (x12 - 1))) x13).bind fun t109 => (if t109 = true then (if 0 ≤ x13 then (if x13 < (x10.length : Int) then (dropperref04_Rank.l1 k x0 x1 x2 x3 x10 (wrap64 (x11 + (rd x10 x13))) x12 (wrap64 (x13 + 1))) else (none)) else (none)) else (dropperref04_Rank.l1 k x0 x1 x2 x3 x10 x11 x12 (wrap64 (x13 + 1))))) else (none)) else (none)) else (dropperref04_Rank.l0 k x0 x1 x2 x3 x10 x11 (wrap64 (x12 + 1)))) else (none)) else (none)
end
def dropperref04_Rank.f (k : Nat) (l0 : List Int) (a1 : Int) (a2 : Int) (l3 : List Int) : Option (Int × Int) := (dropperref04_Valid.f k l0 a1 a2).bind fun t101 => (if t101 = true then ((dropperref04_isPlan.f k l0 a1 a2 l3).bind fun t102 => (if t102 = true then ((dropperref04_onward.f k l0 a1 a2).bind fun t103 => (dropperref04_Rank.l0 k l0 a1 a2 l3 t103 0 1)) else (some (0, 2)))) else (some (0, 40)))
theorem dropperref04_Rank.mono_l : ∀ k, (∀ y0 y1 y2 y3 y4 y5 y6, LeO (dropperref04_Rank.l0 k y0 y1 y2 y3 y4 y5 y6) (dropperref04_Rank.l0 (k + 1) y0 y1 y2 y3 y4 y5 y6)) ∧ (∀ y0 y1 y2 y3 y4 y5 y6 y7, LeO (dropperref04_Rank.l1 k y0 y1 y2 y3 y4 y5 y6 y7) (dropperref04_Rank.l1 (k + 1) y0 y1 y2 y3 y4 y5 y6 y7))
  | 0 => ⟨fun _ _ _ _ _ _ _ r h => by simp [dropperref04_Rank.l0] at h, fun _ _ _ _ _ _ _ _ r h => by simp [dropperref04_Rank.l1] at h⟩
  | k + 1 => by
    obtain ⟨ih0, ih1⟩ := dropperref04_Rank.mono_l k
    refine ⟨?_, ?_⟩
    · intro y0 y1 y2 y3 y4 y5 y6
      unfold dropperref04_Rank.l0
      repeat' first
      | (with_reducible exact ih0 _ _ _ _ _ _ _)
      | (with_reducible exact ih1 _ _ _ _ _ _ _ _)
      | (with_reducible exact dropperref04_Valid.mono _ _ _ _)
      | (with_reducible exact dropperref04_isPlan.mono _ _ _ _ _)
      | (with_reducible exact dropperref04_onward.mono _ _ _ _)
      | (with_reducible exact LeO.refl _)
      | (with_reducible exact LeO.none _)
      | (with_reducible refine LeO.ite ?_ ?_)
      | (with_reducible refine LeO.bind ?_ (fun _ => ?_))
      | exact ih0 _ _ _ _ _ _ _
      | exact ih1 _ _ _ _ _ _ _ _
      | exact dropperref04_Valid.mono _ _ _ _
      | exact dropperref04_isPlan.mono _ _ _ _ _
      | exact dropperref04_onward.mono _ _ _ _
      | exact LeO.none _
      | refine LeO.ite ?_ ?_
      | refine LeO.bind ?_ (fun _ => ?_)
    · intro y0 y1 y2 y3 y4 y5 y6 y7
      unfold dropperref04_Rank.l1
      repeat' first
      | (with_reducible exact ih0 _ _ _ _ _ _ _)
      | (with_reducible exact ih1 _ _ _ _ _ _ _ _)
      | (with_reducible exact dropperref04_Valid.mono _ _ _ _)
      | (with_reducible exact dropperref04_isPlan.mono _ _ _ _ _)
      | (with_reducible exact dropperref04_onward.mono _ _ _ _)
      | (with_reducible exact LeO.refl _)
      | (with_reducible exact LeO.none _)
      | (with_reducible refine LeO.ite ?_ ?_)
      | (with_reducible refine LeO.bind ?_ (fun _ => ?_))
      | exact ih0 _ _ _ _ _ _ _
      | exact ih1 _ _ _ _ _ _ _ _
      | exact dropperref04_Valid.mono _ _ _ _
      | exact dropperref04_isPlan.mono _ _ _ _ _
      | exact dropperref04_onward.mono _ _ _ _
      | exact LeO.none _
      | refine LeO.ite ?_ ?_
      | refine LeO.bind ?_ (fun _ => ?_)
theorem dropperref04_Rank.mono : ∀ a0 a1 a2 a3 k, LeO (dropperref04_Rank.f k a0 a1 a2 a3) (dropperref04_Rank.f (k + 1) a0 a1 a2 a3) := by
  intro a0 a1 a2 a3 k
  obtain ⟨ih0, ih1⟩ := dropperref04_Rank.mono_l k
  unfold dropperref04_Rank.f
  repeat' first
      | (with_reducible exact ih0 _ _ _ _ _ _ _)
      | (with_reducible exact ih1 _ _ _ _ _ _ _ _)
      | (with_reducible exact dropperref04_Valid.mono _ _ _ _)
      | (with_reducible exact dropperref04_isPlan.mono _ _ _ _ _)
      | (with_reducible exact dropperref04_onward.mono _ _ _ _)
      | (with_reducible exact LeO.refl _)
      | (with_reducible exact LeO.none _)
      | (with_reducible refine LeO.ite ?_ ?_)
      | (with_reducible refine LeO.bind ?_ (fun _ => ?_))
      | exact ih0 _ _ _ _ _ _ _
      | exact ih1 _ _ _ _ _ _ _ _
      | exact dropperref04_Valid.mono _ _ _ _
      | exact dropperref04_isPlan.mono _ _ _ _ _
      | exact dropperref04_onward.mono _ _ _ _
      | exact LeO.none _
      | refine LeO.ite ?_ ?_
      | refine LeO.bind ?_ (fun _ => ?_)
set_option maxHeartbeats 8000000 in
set_option maxRecDepth 100000 in
theorem dropperref04_Rank.calls (k : Nat) (A0 : Option Addr) (c0 : Nat) (l0 : List Int) (a1 : Int) (a2 : Int) (A3 : Option Addr) (c3 : Nat) (l3 : List Int) (r1 : Int) (r2 : Int) (w : World) (hr0 : Kd.C (Kd.int .i64) w A0 l0.length l0) (hc0 : l0.length ≤ c0) (hr3 : Kd.C (Kd.int .i64) w A3 l3.length l3) (hc3 : l3.length ≤ c3) (h : dropperref04_Rank.f k l0 a1 a2 l3 = some (r1, r2)) :
    Calls Try.prog 45 #[.slice A0 l0.length c0, .int .i64 a1, .int .i64 a2, .slice A3 l3.length c3] w fun e w' => e = .returned (.tuple #[.int .i64 r1, .int .i64 r2]) ∧ Below w.heap.size w w' := by
  have HR0 := Aside0.mk hr0
  have HC0 := Aside0.mk hc0
  clear hr0 hc0
  have HR3 := Aside0.mk hr3
  have HC3 := Aside0.mk hc3
  clear hr3 hc3
  have HB := Aside0.mk (Below.refl w.heap.size w)
  have H : ((dropperref04_Valid.f k l0 a1 a2).bind fun t101 => (if t101 = true then ((dropperref04_isPlan.f k l0 a1 a2 l3).bind fun t102 => (if t102 = true then ((dropperref04_onward.f k l0 a1 a2).bind fun t103 => (dropperref04_Rank.l0 k l0 a1 a2 l3 t103 0 1)) else (some (0, 2)))) else (some (0, 40)))) = some (r1, r2) := h
  clear h
  replace H := Option.bind_eq_some_iff.mp H
  obtain ⟨t101, A50, H⟩ := H
  replace H : (if t101 = true then ((dropperref04_isPlan.f k l0 a1 a2 l3).bind fun t102 => (if t102 = true then ((dropperref04_onward.f k l0 a1 a2).bind fun t103 => (dropperref04_Rank.l0 k l0 a1 a2 l3 t103 0 1)) else (some (0, 2)))) else (some (0, 40))) = some (r1, r2) := H
  have A5 := Aside0.mk A50
  clear A50
  by_cases c6 : t101 = true
  rotate_left
  · replace c6 := Bool.eq_false_iff.mpr c6
    subst c6
    have H1 : (some (0, 40)) = some (r1, r2) := by rw [if_neg (show ¬ (false = true) by decide)] at H; exact H
    clear H
    have H := H1
    clear H1
    simp only [Option.some.injEq, Prod.mk.injEq] at H
    obtain ⟨rfl, rfl⟩ := H
    go_enter Try.func45, Try.ntmps45
    go_wp2_with (first | ((with_reducible refine gate_callee (f := 29) rfl ?_); refine goesL_ (some 18) rfl rfl Try.func29 (by kernel_rfl) rfl #[.slice A0 l0.length c0, .int .i64 a1, .int .i64 a2] rfl (by (try simp only [List.map_toArray, List.map_cons, List.map_nil]); first | done | rfl | (simp only [List.length_drop, List.length_take]; rfl)) ?_; (with_reducible refine (dropperref04_Valid.calls k _ _ l0 a1 a2 false _ ?side1 ?side2 A5.out).mono ?_); (case side1 => repeat (first | exact HR0.out | (with_reducible refine Kd.C_alloc ?_ _) | (with_reducible refine Kd.C_drewN ?_ _) | (with_reducible refine Kd.C_drew ?_))); (case side2 => exact HC0.out); rintro e w' ⟨rfl, ⟨nd, rfl⟩⟩; refine ⟨_, rfl, ?_⟩))
    go_ret2
    exact ⟨by first | rfl | (simp [errW_none, errW_some] <;> rfl) | (simp [*, errW_none, errW_some] <;> rfl), by repeat (first | (with_reducible first | exact HB.out | apply below_alloc | apply pw_below_drewN | apply below_drew1) | exact HB.out)⟩

  subst c6
  have H1 : ((dropperref04_isPlan.f k l0 a1 a2 l3).bind fun t102 => (if t102 = true then ((dropperref04_onward.f k l0 a1 a2).bind fun t103 => (dropperref04_Rank.l0 k l0 a1 a2 l3 t103 0 1)) else (some (0, 2)))) = some (r1, r2) := by rw [if_pos rfl] at H; exact H
  clear H
  have H := H1
  clear H1
  replace H := Option.bind_eq_some_iff.mp H
  obtain ⟨t102, A70, H⟩ := H
  replace H : (if t102 = true then ((dropperref04_onward.f k l0 a1 a2).bind fun t103 => (dropperref04_Rank.l0 k l0 a1 a2 l3 t103 0 1)) else (some (0, 2))) = some (r1, r2) := H
  have A7 := Aside0.mk A70
  clear A70
  by_cases c8 : t102 = true
  rotate_left
  · replace c8 := Bool.eq_false_iff.mpr c8
    subst c8
    have H1 : (some (0, 2)) = some (r1, r2) := by rw [if_neg (show ¬ (false = true) by decide)] at H; exact H
    clear H
    have H := H1
    clear H1
    simp only [Option.some.injEq, Prod.mk.injEq] at H
    obtain ⟨rfl, rfl⟩ := H
    go_enter Try.func45, Try.ntmps45
    go_wp2_with (first | ((with_reducible refine gate_callee (f := 29) rfl ?_); refine goesL_ (some 18) rfl rfl Try.func29 (by kernel_rfl) rfl #[.slice A0 l0.length c0, .int .i64 a1, .int .i64 a2] rfl (by (try simp only [List.map_toArray, List.map_cons, List.map_nil]); first | done | rfl | (simp only [List.length_drop, List.length_take]; rfl)) ?_; (with_reducible refine (dropperref04_Valid.calls k _ _ l0 a1 a2 true _ ?side1 ?side2 A5.out).mono ?_); (case side1 => repeat (first | exact HR0.out | (with_reducible refine Kd.C_alloc ?_ _) | (with_reducible refine Kd.C_drewN ?_ _) | (with_reducible refine Kd.C_drew ?_))); (case side2 => exact HC0.out); rintro e w' ⟨rfl, ⟨nd, rfl⟩⟩; refine ⟨_, rfl, ?_⟩) | ((with_reducible refine gate_callee (f := 79) rfl ?_); refine goesL_ (some 25) rfl rfl Try.func79 (by kernel_rfl) rfl #[.slice A0 l0.length c0, .int .i64 a1, .int .i64 a2, .slice A3 l3.length c3] rfl (by (try simp only [List.map_toArray, List.map_cons, List.map_nil]); first | done | rfl | (simp only [List.length_drop, List.length_take]; rfl)) ?_; (with_reducible refine (dropperref04_isPlan.calls k _ _ l0 a1 a2 _ _ l3 false _ ?side1 ?side2 ?side3 ?side4 A7.out).mono ?_); (case side1 => repeat (first | exact HR0.out | (with_reducible refine Kd.C_alloc ?_ _) | (with_reducible refine Kd.C_drewN ?_ _) | (with_reducible refine Kd.C_drew ?_))); (case side2 => exact HC0.out); (case side3 => repeat (first | exact HR3.out | (with_reducible refine Kd.C_alloc ?_ _) | (with_reducible refine Kd.C_drewN ?_ _) | (with_reducible refine Kd.C_drew ?_))); (case side4 => exact HC3.out); rintro e w' ⟨rfl, ⟨nd, rfl⟩⟩; refine ⟨_, rfl, ?_⟩))
    go_ret2
    exact ⟨by first | rfl | (simp [errW_none, errW_some] <;> rfl) | (simp [*, errW_none, errW_some] <;> rfl), by repeat (first | (with_reducible first | exact HB.out | apply below_alloc | apply pw_below_drewN | apply below_drew1) | exact HB.out)⟩
  subst c8
  have H1 : ((dropperref04_onward.f k l0 a1 a2).bind fun t103 => (dropperref04_Rank.l0 k l0 a1 a2 l3 t103 0 1)) = some (r1, r2) := by rw [if_pos rfl] at H; exact H
  clear H
  have H := H1
  clear H1
  replace H := Option.bind_eq_some_iff.mp H
  obtain ⟨t103, A90, H⟩ := H
  replace H : (dropperref04_Rank.l0 k l0 a1 a2 l3 t103 0 1) = some (r1, r2) := H
  have A9 := Aside0.mk A90
  clear A90
  have H' := Aside0.mk H
  clear H
  go_enter Try.func45, Try.ntmps45
  go_wp2_with (first | ((with_reducible refine gate_callee (f := 29) rfl ?_); refine goesL_ (some 18) rfl rfl Try.func29 (by kernel_rfl) rfl #[.slice A0 l0.length c0, .int .i64 a1, .int .i64 a2] rfl (by (try simp only [List.map_toArray, List.map_cons, List.map_nil]); first | done | rfl | (simp only [List.length_drop, List.length_take]; rfl)) ?_; (with_reducible refine (dropperref04_Valid.calls k _ _ l0 a1 a2 true _ ?side1 ?side2 A5.out).mono ?_); (case side1 => repeat (first | exact HR0.out | (with_reducible refine Kd.C_alloc ?_ _) | (with_reducible refine Kd.C_drewN ?_ _) | (with_reducible refine Kd.C_drew ?_))); (case side2 => exact HC0.out); rintro e w' ⟨rfl, ⟨nd, rfl⟩⟩; refine ⟨_, rfl, ?_⟩) | ((with_reducible refine gate_callee (f := 79) rfl ?_); refine goesL_ (some 25) rfl rfl Try.func79 (by kernel_rfl) rfl #[.slice A0 l0.length c0, .int .i64 a1, .int .i64 a2, .slice A3 l3.length c3] rfl (by (try simp only [List.map_toArray, List.map_cons, List.map_nil]); first | done | rfl | (simp only [List.length_drop, List.length_take]; rfl)) ?_; (with_reducible refine (dropperref04_isPlan.calls k _ _ l0 a1 a2 _ _ l3 true _ ?side1 ?side2 ?side3 ?side4 A7.out).mono ?_); (case side1 => repeat (first | exact HR0.out | (with_reducible refine Kd.C_alloc ?_ _) | (with_reducible refine Kd.C_drewN ?_ _) | (with_reducible refine Kd.C_drew ?_))); (case side2 => exact HC0.out); (case side3 => repeat (first | exact HR3.out | (with_reducible refine Kd.C_alloc ?_ _) | (with_reducible refine Kd.C_drewN ?_ _) | (with_reducible refine Kd.C_drew ?_))); (case side4 => exact HC3.out); rintro e w' ⟨rfl, ⟨nd, rfl⟩⟩; refine ⟨_, rfl, ?_⟩) | ((with_reducible refine gate_callee (f := 60) rfl ?_); refine goesL_ (some 30) rfl rfl Try.func60 (by kernel_rfl) rfl #[.slice A0 l0.length c0, .int .i64 a1, .int .i64 a2] rfl (by (try simp only [List.map_toArray, List.map_cons, List.map_nil]); first | done | rfl | (simp only [List.length_drop, List.length_take]; rfl)) ?_; (with_reducible refine (dropperref04_onward.calls k _ _ l0 a1 a2 t103 _ ?side1 ?side2 A9.out).mono ?_); (case side1 => repeat (first | exact HR0.out | (with_reducible refine Kd.C_alloc ?_ _) | (with_reducible refine Kd.C_drewN ?_ _) | (with_reducible refine Kd.C_drew ?_))); (case side2 => exact HC0.out); rintro e w10 ⟨v104, rfl, ho0, hb⟩; refine ⟨_, rfl, ?_⟩; have n0_ := Aside0.mk (Kd.R_lower ho0 (below_size (by repeat (first | (with_reducible first | exact HB.out | apply below_alloc | apply pw_below_drewN | apply below_drew1) | exact HB.out)))); have n1_ := Aside0.mk (below_step (by repeat (first | (with_reducible first | exact HB.out | apply below_alloc | apply pw_below_drewN | apply below_drew1) | exact HB.out)) hb); clear HB; have HO105 := n0_; have HB := n1_; clear n0_ n1_; (try clear hb); (try clear hb2); (try clear hk); (try clear hi); (try clear ho0)))
  go_loopg [11, 12] k (fun kq v11 v12 w' => ∃ (x11_1 : Int) (x12_1 : Int), v11 = .int .i64 x11_1 ∧ v12 = .int .i64 x12_1 ∧ Aside0 (dropperref04_Rank.l0 kq l0 a1 a2 l3 t103 x11_1 x12_1 = some (r1, r2)) ∧ Aside0 (kq ≤ k) ∧ Aside0 (Kd.R (Kd.int .i64) 3 w' w.heap.size (fun _ => True) v104 t103) ∧ Aside0 (Below w.heap.size w w'))
  case atStart => exact ⟨(0), (1), (by first | rfl | (simp; done) | (simp [*]; done)), (by first | rfl | (simp; done) | (simp [*]; done)), H', ⟨Nat.le_refl _⟩, ⟨by (with_reducible repeat (first | apply Kd.R_alloc | apply Kd.R_drewN | apply Kd.R_drew)); exact HO105.out⟩, ⟨by repeat (first | (with_reducible first | exact HB.out | apply below_alloc | apply pw_below_drewN | apply below_drew1) | exact HB.out)⟩⟩
  case round =>
    clear H'
    try clear c2
    try clear p2
    try clear c3
    try clear c4
    try clear c6
    try clear c7
    try clear c8
    obtain ⟨x11_1, x12_1, rfl, rfl, HA, HK1, HO_10, HB⟩ := hrel
    cases gk with
    | zero => exact absurd HA.out (by simp [dropperref04_Rank.l0])
    | succ k1 =>
      have H := HA.out
      clear HA
      simp only [dropperref04_Rank.l0] at H
      by_cases c11 : x12_1 < (l3.length : Int)
      rotate_left
      · rw [if_neg c11] at H
        have c11b0 : decide (x12_1 < (l3.length : Int)) = false := decide_eq_false c11
        clear c11
        simp only [Option.some.injEq, Prod.mk.injEq] at H
        obtain ⟨rfl, rfl⟩ := H
        go_wp2
        go_ret2
        exact ⟨by first | rfl | (simp [errW_none, errW_some] <;> rfl) | (simp [*, errW_none, errW_some] <;> rfl), by repeat (first | (with_reducible first | exact HB.out | apply below_alloc | apply pw_below_drewN | apply below_drew1) | exact HB.out)⟩
      rw [if_pos c11] at H
      have c11b0 : decide (x12_1 < (l3.length : Int)) = true := decide_eq_true c11
      clear c11
      obtain ⟨ji12, hji12⟩ : ∃ j_ : Int, (wrap64 (x12_1 - 1)) = j_ := ⟨_, rfl⟩
      replace H : (if 0 ≤ (ji12) then (if (ji12) < (l3.length : Int) then (dropperref04_Rank.l1 k1 l0 a1 a2 l3 t103 x11_1 x12_1 (wrap64 ((rd l3 (ji12)) + 1))) else (none)) else (none)) = some (r1, r2) := by first | (rw [hji12] at H; exact H) | (simp only [hji12] at H ⊢; exact H)
      have hji12w : (IntKind.i64.wrap (x12_1 - 1)) = ji12 := (i64_w _).trans hji12
      by_cases c13 : 0 ≤ (ji12)
      rotate_left
      · rw [if_neg c13] at H
        exact absurd H (by simp)
      rw [if_pos c13] at H
      have c13b0 : decide (0 ≤ (ji12)) = true := decide_eq_true c13
      clear c13
      by_cases c14 : (ji12) < (l3.length : Int)
      rotate_left
      · rw [if_neg c14] at H
        exact absurd H (by simp)
      rw [if_pos c14] at H
      have c14b0 : decide ((ji12) < (l3.length : Int)) = true := decide_eq_true c14
      clear c14
      have H' := Aside0.mk H
      clear H
      have p106 : 0 ≤ ((ji12) : Int) := of_decide_eq_true (by first | (with_reducible assumption) | assumption)
      have q106 : (ji12) < (l3.length : Int) := of_decide_eq_true (by first | (with_reducible assumption) | assumption)
      obtain ⟨ad106, e106, hx106_0⟩ := Kd.at_int HR3.out (ji12) p106 q106
      cases e106
      replace hx106_0 := (HB.out.cell (World.block_lt_of_cell? w _ hx106_0)).trans hx106_0
      replace p106 := eq_true p106
      replace q106 := eq_true q106
      go_wp2
      go_loopg [11, 13] k1 (fun kq v11 v13 w' => ∃ (x11_2 : Int) (x13_2 : Int), v11 = .int .i64 x11_2 ∧ v13 = .int .i64 x13_2 ∧ Aside0 (dropperref04_Rank.l1 kq l0 a1 a2 l3 t103 x11_2 x12_1 x13_2 = some (r1, r2)) ∧ Aside0 (kq ≤ k1) ∧ Aside0 (Kd.R (Kd.int .i64) 3 w' w.heap.size (fun _ => True) v104 t103) ∧ Aside0 (Below w.heap.size w w'))
      case atStart => exact ⟨(x11_1), (wrap64 ((rd l3 (ji12)) + 1)), (by first | rfl | (simp; done) | (simp [*]; done)), (by first | rfl | (simp; done) | (simp only [← hji12] <;> (first | rfl | simp)) | (simp [*]; done)), H', ⟨Nat.le_refl _⟩, ⟨by (with_reducible repeat (first | apply Kd.R_alloc | apply Kd.R_drewN | apply Kd.R_drew)); exact HO_10.out⟩, ⟨by repeat (first | (with_reducible first | exact HB.out | apply below_alloc | apply pw_below_drewN | apply below_drew1) | exact HB.out)⟩⟩
      case round =>
        clear H'
        try clear c1
        try clear p1
        try clear q1
        try clear hx1
        try clear c2
        try clear p2
        try clear c3
        try clear c4
        try clear c6
        try clear p6
        try clear c7
        try clear c8
        try clear p10
        try clear q10
        try clear hx10
        try clear c11
        try clear c11b0
        try clear c13
        try clear c13b0
        try clear c14
        try clear c14b0
        try clear hx106_0
        try clear p106
        try clear p2
        try clear q106
        obtain ⟨x11_2, x13_2, rfl, rfl, HA, HK2, HO_10, HB⟩ := hrel
        cases gk with
        | zero => exact absurd HA.out (by simp [dropperref04_Rank.l1])
        | succ k2 =>
          have H := HA.out
          clear HA
          simp only [dropperref04_Rank.l1] at H
          by_cases c15 : 0 ≤ x12_1
          rotate_left
          · rw [if_neg c15] at H
            exact absurd H (by simp)
          rw [if_pos c15] at H
          have c15b0 : decide (0 ≤ x12_1) = true := decide_eq_true c15
          clear c15
          by_cases c16 : x12_1 < (l3.length : Int)
          rotate_left
          · rw [if_neg c16] at H
            exact absurd H (by simp)
          rw [if_pos c16] at H
          have c16b0 : decide (x12_1 < (l3.length : Int)) = true := decide_eq_true c16
          clear c16
          by_cases c17 : x13_2 < (rd l3 x12_1)
          rotate_left
          · rw [if_neg c17] at H
            have c17b0 : decide (x13_2 < (rd l3 x12_1)) = false := decide_eq_false c17
            clear c17
            have H' := Aside0.mk H
            clear H
            have p107 : 0 ≤ (x12_1 : Int) := of_decide_eq_true (by first | (with_reducible assumption) | assumption)
            have q107 : x12_1 < (l3.length : Int) := of_decide_eq_true (by first | (with_reducible assumption) | assumption)
            obtain ⟨ad107, e107, hx107_0⟩ := Kd.at_int HR3.out x12_1 p107 q107
            obtain rfl : ad106 = ad107 := (by injection e107)
            replace hx107_0 := (HB.out.cell (World.block_lt_of_cell? w _ hx107_0)).trans hx107_0
            replace p107 := eq_true p107
            replace q107 := eq_true q107
            go_wp2
            go_roundg k2
            case measure => have := HK1.out; have := HK2.out; omega
            case rel => exact ⟨(x11_2), (wrap64 (x12_1 + 1)), (by first | rfl | (simp; done) | (simp [*]; done)), (by first | rfl | (simp; done) | (simp [*]; done)), H', ⟨by have := HK1.out; have := HK2.out; omega⟩, ⟨by (with_reducible repeat (first | apply Kd.R_alloc | apply Kd.R_drewN | apply Kd.R_drew)); exact HO_10.out⟩, ⟨by repeat (first | (with_reducible first | exact HB.out | apply below_alloc | apply pw_below_drewN | apply below_drew1) | exact HB.out)⟩⟩
          rw [if_pos c17] at H
          have c17b0 : decide (x13_2 < (rd l3 x12_1)) = true := decide_eq_true c17
          clear c17
          obtain ⟨ji18, hji18⟩ : ∃ j_ : Int, (wrap64 (x12_1 - 1)) = j_ := ⟨_, rfl⟩
          replace H : (if 0 ≤ (ji18) then (if (ji18) < (l3.length : Int) then ((dropperref04_may.f l0 a1 a2 (rd l3 (ji18)) x13_2).bind fun t109 => (if t109 = true then (if 0 ≤ x13_2 then (if x13_2 < (t103.length : Int) then (dropperref04_Rank.l1 k2 l0 a1 a2 l3 t103 (wrap64 (x11_2 + (rd t103 x13_2))) x12_1 (wrap64 (x13_2 + 1))) else (none)) else (none)) else (dropperref04_Rank.l1 k2 l0 a1 a2 l3 t103 x11_2 x12_1 (wrap64 (x13_2 + 1))))) else (none)) else (none)) = some (r1, r2) := by first | (rw [hji18] at H; exact H) | (simp only [hji18] at H ⊢; exact H)
          have hji18w : (IntKind.i64.wrap (x12_1 - 1)) = ji18 := (i64_w _).trans hji18
          obtain rfl : ji18 = ji12 := hji18.symm.trans hji12
          by_cases c19 : 0 ≤ (ji18)
          rotate_left
          · rw [if_neg c19] at H
            exact absurd H (by simp)
          rw [if_pos c19] at H
          have c19b0 : decide (0 ≤ (ji18)) = true := decide_eq_true c19
          clear c19
          by_cases c20 : (ji18) < (l3.length : Int)
          rotate_left
          · rw [if_neg c20] at H
            exact absurd H (by simp)
          rw [if_pos c20] at H
          have c20b0 : decide ((ji18) < (l3.length : Int)) = true := decide_eq_true c20
          clear c20
          replace H := Option.bind_eq_some_iff.mp H
          obtain ⟨t109, A210, H⟩ := H
          replace H : (if t109 = true then (if 0 ≤ x13_2 then (if x13_2 < (t103.length : Int) then (dropperref04_Rank.l1 k2 l0 a1 a2 l3 t103 (wrap64 (x11_2 + (rd t103 x13_2))) x12_1 (wrap64 (x13_2 + 1))) else (none)) else (none)) else (dropperref04_Rank.l1 k2 l0 a1 a2 l3 t103 x11_2 x12_1 (wrap64 (x13_2 + 1)))) = some (r1, r2) := H
          have A21 := Aside0.mk A210
          clear A210
          by_cases c22 : t109 = true
          rotate_left
          · replace c22 := Bool.eq_false_iff.mpr c22
            subst c22
            have H1 : (dropperref04_Rank.l1 k2 l0 a1 a2 l3 t103 x11_2 x12_1 (wrap64 (x13_2 + 1))) = some (r1, r2) := by rw [if_neg (show ¬ (false = true) by decide)] at H; exact H
            clear H
            have H := H1
            clear H1
            have H' := Aside0.mk H
            clear H
            have p107 : 0 ≤ (x12_1 : Int) := of_decide_eq_true (by first | (with_reducible assumption) | assumption)
            have q107 : x12_1 < (l3.length : Int) := of_decide_eq_true (by first | (with_reducible assumption) | assumption)
            obtain ⟨ad107, e107, hx107_0⟩ := Kd.at_int HR3.out x12_1 p107 q107
            obtain rfl : ad106 = ad107 := (by injection e107)
            replace hx107_0 := (HB.out.cell (World.block_lt_of_cell? w _ hx107_0)).trans hx107_0
            replace p107 := eq_true p107
            replace q107 := eq_true q107
            have p108 : 0 ≤ ((ji18) : Int) := of_decide_eq_true (by first | (with_reducible assumption) | assumption)
            have q108 : (ji18) < (l3.length : Int) := of_decide_eq_true (by first | (with_reducible assumption) | assumption)
            obtain ⟨ad108, e108, hx108_0⟩ := Kd.at_int HR3.out (ji18) p108 q108
            obtain rfl : ad106 = ad108 := (by injection e108)
            replace hx108_0 := (HB.out.cell (World.block_lt_of_cell? w _ hx108_0)).trans hx108_0
            replace p108 := eq_true p108
            replace q108 := eq_true q108
            go_wp2_with (first | ((with_reducible refine gate_callee (f := 62) rfl ?_); refine goesL_ (some 60) rfl rfl Try.func62 (by kernel_rfl) rfl #[.slice A0 l0.length c0, .int .i64 a1, .int .i64 a2, .int .i64 (rd l3 (ji18)), .int .i64 x13_2] rfl (by (try simp only [List.map_toArray, List.map_cons, List.map_nil]); first | done | (simp only [hji18]; rfl) | rfl | (simp only [List.length_drop, List.length_take]; rfl)) ?_; (with_reducible refine (dropperref04_may.calls _ _ l0 a1 a2 (rd l3 (ji18)) x13_2 false _ ?side1 ?side2 A21.out).mono ?_); (case side1 => repeat (first | exact (Kd.C_below HR0.out HB.out) | (with_reducible refine Kd.C_alloc ?_ _) | (with_reducible refine Kd.C_drewN ?_ _) | (with_reducible refine Kd.C_drew ?_))); (case side2 => exact HC0.out); rintro e w' ⟨rfl, ⟨nd, rfl⟩⟩; refine ⟨_, rfl, ?_⟩))
            go_roundg k2
            case measure => have := HK1.out; have := HK2.out; omega
            case rel => exact ⟨(x11_2), (wrap64 (x13_2 + 1)), (by first | rfl | (simp; done) | (simp [*]; done)), (by first | rfl | (simp; done) | (simp [*]; done)), H', ⟨by have := HK1.out; have := HK2.out; omega⟩, ⟨by (with_reducible repeat (first | apply Kd.R_alloc | apply Kd.R_drewN | apply Kd.R_drew)); exact HO_10.out⟩, ⟨by repeat (first | (with_reducible first | exact HB.out | apply below_alloc | apply pw_below_drewN | apply below_drew1) | exact HB.out)⟩⟩
          subst c22
          have H1 : (if 0 ≤ x13_2 then (if x13_2 < (t103.length : Int) then (dropperref04_Rank.l1 k2 l0 a1 a2 l3 t103 (wrap64 (x11_2 + (rd t103 x13_2))) x12_1 (wrap64 (x13_2 + 1))) else (none)) else (none)) = some (r1, r2) := by rw [if_pos rfl] at H; exact H
          clear H
          have H := H1
          clear H1
          by_cases c23 : 0 ≤ x13_2
          rotate_left
          · rw [if_neg c23] at H
            exact absurd H (by simp)
          rw [if_pos c23] at H
          have c23b0 : decide (0 ≤ x13_2) = true := decide_eq_true c23
          clear c23
          by_cases c24 : x13_2 < (t103.length : Int)
          rotate_left
          · rw [if_neg c24] at H
            exact absurd H (by simp)
          rw [if_pos c24] at H
          have c24b0 : decide (x13_2 < (t103.length : Int)) = true := decide_eq_true c24
          clear c24
          have H' := Aside0.mk H
          clear H
          have p107 : 0 ≤ (x12_1 : Int) := of_decide_eq_true (by first | (with_reducible assumption) | assumption)
          have q107 : x12_1 < (l3.length : Int) := of_decide_eq_true (by first | (with_reducible assumption) | assumption)
          obtain ⟨ad107, e107, hx107_0⟩ := Kd.at_int HR3.out x12_1 p107 q107
          obtain rfl : ad106 = ad107 := (by injection e107)
          replace hx107_0 := (HB.out.cell (World.block_lt_of_cell? w _ hx107_0)).trans hx107_0
          replace p107 := eq_true p107
          replace q107 := eq_true q107
          have p108 : 0 ≤ ((ji18) : Int) := of_decide_eq_true (by first | (with_reducible assumption) | assumption)
          have q108 : (ji18) < (l3.length : Int) := of_decide_eq_true (by first | (with_reducible assumption) | assumption)
          obtain ⟨ad108, e108, hx108_0⟩ := Kd.at_int HR3.out (ji18) p108 q108
          obtain rfl : ad106 = ad108 := (by injection e108)
          replace hx108_0 := (HB.out.cell (World.block_lt_of_cell? w _ hx108_0)).trans hx108_0
          replace p108 := eq_true p108
          replace q108 := eq_true q108
          go_wp2_with (first | ((with_reducible refine gate_callee (f := 62) rfl ?_); refine goesL_ (some 60) rfl rfl Try.func62 (by kernel_rfl) rfl #[.slice A0 l0.length c0, .int .i64 a1, .int .i64 a2, .int .i64 (rd l3 (ji18)), .int .i64 x13_2] rfl (by (try simp only [List.map_toArray, List.map_cons, List.map_nil]); first | done | (simp only [hji18]; rfl) | rfl | (simp only [List.length_drop, List.length_take]; rfl)) ?_; (with_reducible refine (dropperref04_may.calls _ _ l0 a1 a2 (rd l3 (ji18)) x13_2 true _ ?side1 ?side2 A21.out).mono ?_); (case side1 => repeat (first | exact (Kd.C_below HR0.out HB.out) | (with_reducible refine Kd.C_alloc ?_ _) | (with_reducible refine Kd.C_drewN ?_ _) | (with_reducible refine Kd.C_drew ?_))); (case side2 => exact HC0.out); rintro e w' ⟨rfl, ⟨nd, rfl⟩⟩; refine ⟨_, rfl, ?_⟩; obtain ⟨Ao25, co25, eo25⟩ := Kd.R_slice HO_10.out; subst eo25; have p110 : 0 ≤ (x13_2 : Int) := of_decide_eq_true (by first | (with_reducible assumption) | assumption); have q110 : x13_2 < (t103.length : Int) := of_decide_eq_true (by first | (with_reducible assumption) | assumption); obtain ⟨ad110, e110, hx110_0⟩ := Kd.at_int (Kd.R_reads' HO_10.out).2.2 x13_2 p110 q110; cases e110; replace p110 := eq_true p110; replace q110 := eq_true q110))
          go_roundg k2
          case measure => have := HK1.out; have := HK2.out; omega
          case rel => exact ⟨(wrap64 (x11_2 + (rd t103 x13_2))), (wrap64 (x13_2 + 1)), (by first | rfl | (simp; done) | (simp [*]; done)), (by first | rfl | (simp; done) | (simp [*]; done)), H', ⟨by have := HK1.out; have := HK2.out; omega⟩, ⟨by (with_reducible repeat (first | apply Kd.R_alloc | apply Kd.R_drewN | apply Kd.R_drew)); exact HO_10.out⟩, ⟨by repeat (first | (with_reducible first | exact HB.out | apply below_alloc | apply pw_below_drewN | apply below_drew1) | exact HB.out)⟩⟩
end Go.Proofs.Ytiebfmenkpodeaa.G
