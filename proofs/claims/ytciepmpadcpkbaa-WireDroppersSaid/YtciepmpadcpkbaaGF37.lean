-- Written by this session's driver (wip/tools/printmore.py) over the kit's print, with hand-written parts.
import Derived.Test.YtciepmpadcpkbaaGBase
import Derived.Test.YtciepmpadcpkbaaGF57
import Derived.Test.YtciepmpadcpkbaaGF68
import Derived.Test.YtciepmpadcpkbaaGF69
namespace Go.Proofs.Ytciepmpadcpkbaa.G
open Go.RowKit Go.Proofs.YtciepmpadcpkbaaW.PrintWords Go.Proofs.YtciepmpadcpkbaaW.PrintLast Go.Proofs.YtciepmpadcpkbaaW.PrintMore
attribute [local go_sem] max2_int min2_int max_two min_two max_three min_three max_four min_four   -- for this text's walks alone
set_option linter.unusedVariables false
set_option linter.unusedSimpArgs false

/-! ### dropperref02_Droppers: function 37 -/
mutual
def dropperref02_Droppers.j0 : Nat → Int → Int → Int → Int → Int → Bool → Option ((List (S55)) × Int)
  | 0, _, _, _, _, _, _ => none
  | k + 1, x0, x1, x2, x3, x4, x31 => if x31 = true then (some (([] : List (S55)), 2)) else (dropperref02_Droppers.l0 k x0 x1 x2 x3 x4 (wrap64 (x4 + 1)) ([] : List (S55)) 1)
def dropperref02_Droppers.l0 : Nat → Int → Int → Int → Int → Int → Int → List (S55) → Int → Option ((List (S55)) × Int)
  | 0, _, _, _, _, _, _, _, _ => none
  | k + 1, x0, x1, x2, x3, x4, x12, x13, x14 => if x14 ≤ x4 then (if (wrap64 (x3 * (wrap64 ((wrap64 ((wrap64 (2 * x2)) * x12)) * x12)))) ≤ (wrap64 ((wrap64 ((wrap64 ((wrap64 (x0 * x1)) * x1)) * x14)) * (wrap64 (x12 - x14)))) then (some (([] : List (S55)), 5)) else ((dropperref02_ratio.f k (wrap64 ((wrap64 (x3 * (wrap64 ((wrap64 ((wrap64 (2 * x2)) * x12)) * x12)))) - (wrap64 ((wrap64 ((wrap64 ((wrap64 (x0 * x1)) * x1)) * x14)) * (wrap64 (x12 - x14)))))) (wrap64 ((wrap64 ((wrap64 (2 * x2)) * x12)) * x12))).bind fun bt104 => (if x13.length < 8796093022208 then (dropperref02_Droppers.l0 k x0 x1 x2 x3 x4 x12 (x13 ++ [(⟨bt104.1, bt104.2⟩ : S55)]) (wrap64 (x14 + 1))) else (none)))) else (some (x13, 0))
end
def dropperref02_Droppers.f (k : Nat) (a0 : Int) (a1 : Int) (a2 : Int) (a3 : Int) (a4 : Int) : Option ((List (S55)) × Int) := (dropperref02_loaded.f a0 a1 a2).bind fun t101 => (if t101 = true then ((dropperref02_from.f 0 a3 10000).bind fun t102 => (if t102 = true then ((dropperref02_from.f 0 a4 20).bind fun t103 => (dropperref02_Droppers.j0 k a0 a1 a2 a3 a4 (!t103))) else (dropperref02_Droppers.j0 k a0 a1 a2 a3 a4 true))) else (dropperref02_Droppers.j0 k a0 a1 a2 a3 a4 true))
theorem dropperref02_Droppers.mono_l : ∀ k, (∀ y0 y1 y2 y3 y4 y5, LeO (dropperref02_Droppers.j0 k y0 y1 y2 y3 y4 y5) (dropperref02_Droppers.j0 (k + 1) y0 y1 y2 y3 y4 y5)) ∧ (∀ y0 y1 y2 y3 y4 y5 y6 y7, LeO (dropperref02_Droppers.l0 k y0 y1 y2 y3 y4 y5 y6 y7) (dropperref02_Droppers.l0 (k + 1) y0 y1 y2 y3 y4 y5 y6 y7))
  | 0 => ⟨fun _ _ _ _ _ _ r h => by simp [dropperref02_Droppers.j0] at h, fun _ _ _ _ _ _ _ _ r h => by simp [dropperref02_Droppers.l0] at h⟩
  | k + 1 => by
    obtain ⟨ih0, ih1⟩ := dropperref02_Droppers.mono_l k
    refine ⟨?_, ?_⟩
    · intro y0 y1 y2 y3 y4 y5
      unfold dropperref02_Droppers.j0
      repeat' first
      | (with_reducible exact ih0 _ _ _ _ _ _)
      | (with_reducible exact ih1 _ _ _ _ _ _ _ _)
      | (with_reducible exact dropperref02_ratio.mono _ _ _)
      | (with_reducible exact LeO.refl _)
      | (with_reducible exact LeO.none _)
      | (with_reducible refine LeO.ite ?_ ?_)
      | (with_reducible refine LeO.bind ?_ (fun _ => ?_))
      | exact ih0 _ _ _ _ _ _
      | exact ih1 _ _ _ _ _ _ _ _
      | exact dropperref02_ratio.mono _ _ _
      | exact LeO.none _
      | refine LeO.ite ?_ ?_
      | refine LeO.bind ?_ (fun _ => ?_)
    · intro y0 y1 y2 y3 y4 y5 y6 y7
      unfold dropperref02_Droppers.l0
      repeat' first
      | (with_reducible exact ih0 _ _ _ _ _ _)
      | (with_reducible exact ih1 _ _ _ _ _ _ _ _)
      | (with_reducible exact dropperref02_ratio.mono _ _ _)
      | (with_reducible exact LeO.refl _)
      | (with_reducible exact LeO.none _)
      | (with_reducible refine LeO.ite ?_ ?_)
      | (with_reducible refine LeO.bind ?_ (fun _ => ?_))
      | exact ih0 _ _ _ _ _ _
      | exact ih1 _ _ _ _ _ _ _ _
      | exact dropperref02_ratio.mono _ _ _
      | exact LeO.none _
      | refine LeO.ite ?_ ?_
      | refine LeO.bind ?_ (fun _ => ?_)
theorem dropperref02_Droppers.mono : ∀ a0 a1 a2 a3 a4 k, LeO (dropperref02_Droppers.f k a0 a1 a2 a3 a4) (dropperref02_Droppers.f (k + 1) a0 a1 a2 a3 a4) := by
  intro a0 a1 a2 a3 a4 k
  obtain ⟨ih0, ih1⟩ := dropperref02_Droppers.mono_l k
  unfold dropperref02_Droppers.f
  repeat' first
      | (with_reducible exact ih0 _ _ _ _ _ _)
      | (with_reducible exact ih1 _ _ _ _ _ _ _ _)
      | (with_reducible exact dropperref02_ratio.mono _ _ _)
      | (with_reducible exact LeO.refl _)
      | (with_reducible exact LeO.none _)
      | (with_reducible refine LeO.ite ?_ ?_)
      | (with_reducible refine LeO.bind ?_ (fun _ => ?_))
      | exact ih0 _ _ _ _ _ _
      | exact ih1 _ _ _ _ _ _ _ _
      | exact dropperref02_ratio.mono _ _ _
      | exact LeO.none _
      | refine LeO.ite ?_ ?_
      | refine LeO.bind ?_ (fun _ => ?_)
set_option maxHeartbeats 8000000 in
set_option maxRecDepth 100000 in
theorem dropperref02_Droppers.calls (k : Nat) (a0 : Int) (a1 : Int) (a2 : Int) (a3 : Int) (a4 : Int) (r1 : List (S55)) (r2 : Int) (w : World) (h : dropperref02_Droppers.f k a0 a1 a2 a3 a4 = some (r1, r2)) :
    Calls Try.prog 37 #[.int .i64 a0, .int .i64 a1, .int .i64 a2, .int .i64 a3, .int .i64 a4] w fun e w' => ∃ v0_ : Value, e = .returned (.tuple #[v0_, .int .i64 r2]) ∧ Kd.R k55 55 w' w.heap.size (fun _ => True) v0_ r1 ∧ Below w.heap.size w w' := by
  have HB := Aside0.mk (Below.refl w.heap.size w)
  have H : ((dropperref02_loaded.f a0 a1 a2).bind fun t101 => (if t101 = true then ((dropperref02_from.f 0 a3 10000).bind fun t102 => (if t102 = true then ((dropperref02_from.f 0 a4 20).bind fun t103 => (dropperref02_Droppers.j0 k a0 a1 a2 a3 a4 (!t103))) else (dropperref02_Droppers.j0 k a0 a1 a2 a3 a4 true))) else (dropperref02_Droppers.j0 k a0 a1 a2 a3 a4 true))) = some (r1, r2) := h
  clear h
  have HC6 := Aside0.mk H
  clear H
  go_enter Try.func37, Try.ntmps37
  go_upto_region 1 with (fail)
  go_cut [31] (fun v31 wc => ∃ (kq : Nat) (x31_5 : Bool), v31 = .bool x31_5 ∧ Aside0 (dropperref02_Droppers.j0 kq a0 a1 a2 a3 a4 x31_5 = some (r1, r2)) ∧ Aside0 (kq ≤ k) ∧ Aside0 (Below w.heap.size w wc))
  case first =>
    have H := HC6.out
    clear HC6
    replace H := Option.bind_eq_some_iff.mp H
    obtain ⟨t101, A70, H⟩ := H
    replace H : (if t101 = true then ((dropperref02_from.f 0 a3 10000).bind fun t102 => (if t102 = true then ((dropperref02_from.f 0 a4 20).bind fun t103 => (dropperref02_Droppers.j0 k a0 a1 a2 a3 a4 (!t103))) else (dropperref02_Droppers.j0 k a0 a1 a2 a3 a4 true))) else (dropperref02_Droppers.j0 k a0 a1 a2 a3 a4 true)) = some (r1, r2) := H
    have A7 := Aside0.mk A70
    clear A70
    by_cases c8 : t101 = true
    rotate_left
    · replace c8 := Bool.eq_false_iff.mpr c8
      subst c8
      have H1 : (dropperref02_Droppers.j0 k a0 a1 a2 a3 a4 true) = some (r1, r2) := by rw [if_neg (show ¬ (false = true) by decide)] at H; exact H
      clear H
      have H := H1
      clear H1
      have H' := Aside0.mk H
      clear H
      go_wp2_with (first | ((with_reducible refine gate_callee (f := 68) rfl ?_); refine goesL_ (some 20) rfl rfl Try.func68 (by kernel_rfl) rfl #[.int .i64 a0, .int .i64 a1, .int .i64 a2] rfl (by (try simp only [List.map_toArray, List.map_cons, List.map_nil]); first | done | rfl | (simp only [List.length_drop, List.length_take]; rfl)) ?_; (with_reducible refine (dropperref02_loaded.calls a0 a1 a2 false _ A7.out).mono ?_); rintro e w' ⟨rfl, ⟨nd, rfl⟩⟩; refine ⟨_, rfl, ?_⟩))
      go_meet
      case rel => exact ⟨_, (true), (by first | rfl | (simp; done) | (simp [*]; done)), H', ⟨by first | omega | exact Nat.le_refl _⟩, ⟨by repeat (first | (with_reducible first | exact HB.out | apply below_alloc | apply pw_below_drewN | apply below_drew1) | exact HB.out)⟩⟩
    subst c8
    have H1 : ((dropperref02_from.f 0 a3 10000).bind fun t102 => (if t102 = true then ((dropperref02_from.f 0 a4 20).bind fun t103 => (dropperref02_Droppers.j0 k a0 a1 a2 a3 a4 (!t103))) else (dropperref02_Droppers.j0 k a0 a1 a2 a3 a4 true))) = some (r1, r2) := by rw [if_pos rfl] at H; exact H
    clear H
    have H := H1
    clear H1
    replace H := Option.bind_eq_some_iff.mp H
    obtain ⟨t102, A90, H⟩ := H
    replace H : (if t102 = true then ((dropperref02_from.f 0 a4 20).bind fun t103 => (dropperref02_Droppers.j0 k a0 a1 a2 a3 a4 (!t103))) else (dropperref02_Droppers.j0 k a0 a1 a2 a3 a4 true)) = some (r1, r2) := H
    have A9 := Aside0.mk A90
    clear A90
    by_cases c10 : t102 = true
    rotate_left
    · replace c10 := Bool.eq_false_iff.mpr c10
      subst c10
      have H1 : (dropperref02_Droppers.j0 k a0 a1 a2 a3 a4 true) = some (r1, r2) := by rw [if_neg (show ¬ (false = true) by decide)] at H; exact H
      clear H
      have H := H1
      clear H1
      have H' := Aside0.mk H
      clear H
      go_wp2_with (first | ((with_reducible refine gate_callee (f := 68) rfl ?_); refine goesL_ (some 20) rfl rfl Try.func68 (by kernel_rfl) rfl #[.int .i64 a0, .int .i64 a1, .int .i64 a2] rfl (by (try simp only [List.map_toArray, List.map_cons, List.map_nil]); first | done | rfl | (simp only [List.length_drop, List.length_take]; rfl)) ?_; (with_reducible refine (dropperref02_loaded.calls a0 a1 a2 true _ A7.out).mono ?_); rintro e w' ⟨rfl, ⟨nd, rfl⟩⟩; refine ⟨_, rfl, ?_⟩) | (go_at_call 57; (with_reducible refine (dropperref02_from.calls 0 a3 10000 false _ A9.out).mono ?_); rintro e w' ⟨rfl, ⟨nd, rfl⟩⟩))
      go_meet
      case rel => exact ⟨_, (true), (by first | rfl | (simp; done) | (simp [*]; done)), H', ⟨by first | omega | exact Nat.le_refl _⟩, ⟨by repeat (first | (with_reducible first | exact HB.out | apply below_alloc | apply pw_below_drewN | apply below_drew1) | exact HB.out)⟩⟩
    subst c10
    have H1 : ((dropperref02_from.f 0 a4 20).bind fun t103 => (dropperref02_Droppers.j0 k a0 a1 a2 a3 a4 (!t103))) = some (r1, r2) := by rw [if_pos rfl] at H; exact H
    clear H
    have H := H1
    clear H1
    replace H := Option.bind_eq_some_iff.mp H
    obtain ⟨t103, A110, H⟩ := H
    replace H : (dropperref02_Droppers.j0 k a0 a1 a2 a3 a4 (!t103)) = some (r1, r2) := H
    have A11 := Aside0.mk A110
    clear A110
    have H' := Aside0.mk H
    clear H
    go_wp2_with (first | ((with_reducible refine gate_callee (f := 68) rfl ?_); refine goesL_ (some 20) rfl rfl Try.func68 (by kernel_rfl) rfl #[.int .i64 a0, .int .i64 a1, .int .i64 a2] rfl (by (try simp only [List.map_toArray, List.map_cons, List.map_nil]); first | done | rfl | (simp only [List.length_drop, List.length_take]; rfl)) ?_; (with_reducible refine (dropperref02_loaded.calls a0 a1 a2 true _ A7.out).mono ?_); rintro e w' ⟨rfl, ⟨nd, rfl⟩⟩; refine ⟨_, rfl, ?_⟩) | (go_at_call 57; (with_reducible refine (dropperref02_from.calls 0 a3 10000 true _ A9.out).mono ?_); rintro e w' ⟨rfl, ⟨nd, rfl⟩⟩) | (go_at_call 57; (with_reducible refine (dropperref02_from.calls 0 a4 20 t103 _ A11.out).mono ?_); rintro e w' ⟨rfl, ⟨nd, rfl⟩⟩))
    go_meet
    case rel => exact ⟨_, (!t103), (by first | rfl | (simp; done) | (simp [*]; done)), H', ⟨by first | omega | exact Nat.le_refl _⟩, ⟨by repeat (first | (with_reducible first | exact HB.out | apply below_alloc | apply pw_below_drewN | apply below_drew1) | exact HB.out)⟩⟩
  case rest =>
    clear HC6
    try clear c1
    try clear p2
    try clear c3
    try clear c6
    try clear c8
    try clear c10
    obtain ⟨kq, x31_5, rfl, HA, HJ5, HB⟩ := hcut
    cases kq with
    | zero => exact absurd HA.out (by simp [dropperref02_Droppers.j0])
    | succ kj5 =>
      have H := HA.out
      clear HA
      simp only [dropperref02_Droppers.j0] at H
      by_cases c12 : x31_5 = true
      · subst c12
        have H1 : (some (([] : List (S55)), 2)) = some (r1, r2) := by rw [if_pos rfl] at H; exact H
        clear H
        have H := H1
        clear H1
        simp only [Option.some.injEq, Prod.mk.injEq] at H
        obtain ⟨rfl, rfl⟩ := H
        go_wp2
        go_ret2
        exact ⟨_, by first | rfl | (simp [errW_none, errW_some] <;> rfl) | (simp [*, errW_none, errW_some] <;> rfl), by first | exact Kd.R_nil _ _ _ _ _ | exact Kd.N_nil _ _ _ _ _ | exact Kd.V_nil _ _ _ _ _ | exact Kd.Q_nil _ _ _ _ _ | exact Kd.S_nil _ _ _ _ _, by repeat (first | (with_reducible first | exact HB.out | apply below_alloc | apply pw_below_drewN | apply below_drew1) | exact HB.out)⟩
      replace c12 := Bool.eq_false_iff.mpr c12
      subst c12
      have H1 : (dropperref02_Droppers.l0 kj5 a0 a1 a2 a3 a4 (wrap64 (a4 + 1)) ([] : List (S55)) 1) = some (r1, r2) := by rw [if_neg (show ¬ (false = true) by decide)] at H; exact H
      clear H
      have H := H1
      clear H1
      have H' := Aside0.mk H
      clear H
      go_wp2
      go_loopg [13, 14] kj5 (fun kq v13 v14 w' => ∃ (x13_2 : List (S55)) (x14_2 : Int), v14 = .int .i64 x14_2 ∧ Aside0 (dropperref02_Droppers.l0 kq a0 a1 a2 a3 a4 (wrap64 (a4 + 1)) x13_2 x14_2 = some (r1, r2)) ∧ Aside0 (kq ≤ kj5) ∧ Aside0 (Kd.R k55 55 w' w.heap.size (fun _ => True) v13 x13_2) ∧ Aside0 (Below w.heap.size w w'))
      case atStart => exact ⟨(([] : List (S55))), (1), (by first | rfl | (simp; done) | (simp [*]; done)), H', ⟨Nat.le_refl _⟩, ⟨by first | exact Kd.R_nil _ _ _ _ _ | exact Kd.N_nil _ _ _ _ _ | exact Kd.V_nil _ _ _ _ _ | exact Kd.Q_nil _ _ _ _ _ | exact Kd.S_nil _ _ _ _ _⟩, ⟨by repeat (first | (with_reducible first | exact HB.out | apply below_alloc | apply pw_below_drewN | apply below_drew1) | exact HB.out)⟩⟩
      case round =>
        clear H'
        try clear c1
        try clear p2
        try clear c3
        try clear c6
        try clear p6
        try clear c8
        try clear c10
        try clear c12
        try clear p2
        obtain ⟨x13_2, x14_2, rfl, HA, HK2, HO_13, HB⟩ := hrel
        cases gk with
        | zero => exact absurd HA.out (by simp [dropperref02_Droppers.l0])
        | succ k2 =>
          have H := HA.out
          clear HA
          simp only [dropperref02_Droppers.l0] at H
          by_cases c13 : x14_2 ≤ a4
          rotate_left
          · rw [if_neg c13] at H
            have c13b0 : decide (x14_2 ≤ a4) = false := decide_eq_false c13
            clear c13
            simp only [Option.some.injEq, Prod.mk.injEq] at H
            obtain ⟨rfl, rfl⟩ := H
            go_wp2
            go_ret2
            exact ⟨_, by first | rfl | (simp [errW_none, errW_some] <;> rfl) | (simp [*, errW_none, errW_some] <;> rfl), by (with_reducible repeat (first | apply Kd.R_alloc | apply Kd.R_drewN | apply Kd.R_drew)); exact HO_13.out, by repeat (first | (with_reducible first | exact HB.out | apply below_alloc | apply pw_below_drewN | apply below_drew1) | exact HB.out)⟩

          rw [if_pos c13] at H
          have c13b0 : decide (x14_2 ≤ a4) = true := decide_eq_true c13
          clear c13
          by_cases c14 : (wrap64 (a3 * (wrap64 ((wrap64 ((wrap64 (2 * a2)) * (wrap64 (a4 + 1)))) * (wrap64 (a4 + 1)))))) ≤ (wrap64 ((wrap64 ((wrap64 ((wrap64 (a0 * a1)) * a1)) * x14_2)) * (wrap64 ((wrap64 (a4 + 1)) - x14_2))))
          · rw [if_pos c14] at H
            have c14b0 : decide ((wrap64 (a3 * (wrap64 ((wrap64 ((wrap64 (2 * a2)) * (wrap64 (a4 + 1)))) * (wrap64 (a4 + 1)))))) ≤ (wrap64 ((wrap64 ((wrap64 ((wrap64 (a0 * a1)) * a1)) * x14_2)) * (wrap64 ((wrap64 (a4 + 1)) - x14_2))))) = true := decide_eq_true c14
            clear c14
            simp only [Option.some.injEq, Prod.mk.injEq] at H
            obtain ⟨rfl, rfl⟩ := H
            go_wp2
            go_ret2
            exact ⟨_, by first | rfl | (simp [errW_none, errW_some] <;> rfl) | (simp [*, errW_none, errW_some] <;> rfl), by first | exact Kd.R_nil _ _ _ _ _ | exact Kd.N_nil _ _ _ _ _ | exact Kd.V_nil _ _ _ _ _ | exact Kd.Q_nil _ _ _ _ _ | exact Kd.S_nil _ _ _ _ _, by repeat (first | (with_reducible first | exact HB.out | apply below_alloc | apply pw_below_drewN | apply below_drew1) | exact HB.out)⟩
          rw [if_neg c14] at H
          have c14b0 : decide ((wrap64 (a3 * (wrap64 ((wrap64 ((wrap64 (2 * a2)) * (wrap64 (a4 + 1)))) * (wrap64 (a4 + 1)))))) ≤ (wrap64 ((wrap64 ((wrap64 ((wrap64 (a0 * a1)) * a1)) * x14_2)) * (wrap64 ((wrap64 (a4 + 1)) - x14_2))))) = false := decide_eq_false c14
          clear c14
          replace H := Option.bind_eq_some_iff.mp H
          obtain ⟨⟨t104, t105⟩, A150, H⟩ := H
          replace H : (if x13_2.length < 8796093022208 then (dropperref02_Droppers.l0 k2 a0 a1 a2 a3 a4 (wrap64 (a4 + 1)) (x13_2 ++ [(⟨t104, t105⟩ : S55)]) (wrap64 (x14_2 + 1))) else (none)) = some (r1, r2) := H
          have A15 := Aside0.mk A150
          clear A150
          by_cases c16 : x13_2.length < 8796093022208
          rotate_left
          · rw [if_neg c16] at H
            exact absurd H (by simp)
          rw [if_pos c16] at H
          have LMc16 := Aside0.mk c16
          clear c16
          obtain ⟨y106, hy106⟩ : ∃ y_ : List (S55), y_ = (x13_2 ++ [(⟨t104, t105⟩ : S55)]) := ⟨_, rfl⟩
          replace H : (dropperref02_Droppers.l0 k2 a0 a1 a2 a3 a4 (wrap64 (a4 + 1)) y106 (wrap64 (x14_2 + 1))) = some (r1, r2) := by first | (rw [hy106]; with_reducible exact H) | (have H2_ := (Option.bind_some _ _).symm.trans H; rw [hy106]; with_reducible exact H2_) | (have H2_ := (Option.bind_some _ _).symm.trans H; with_reducible exact H2_) | with_reducible exact H | (rw [hy106]; exact H) | exact H
          have Ny106 := Aside0.mk hy106
          clear hy106
          have H' := Aside0.mk H
          clear H
          go_wp2_with (first | ((with_reducible refine gate_callee (f := 69) rfl ?_); refine goesL_ (some 68) rfl rfl Try.func69 (by kernel_rfl) rfl #[.int .i64 (wrap64 ((wrap64 (a3 * (wrap64 ((wrap64 ((wrap64 (2 * a2)) * (wrap64 (a4 + 1)))) * (wrap64 (a4 + 1)))))) - (wrap64 ((wrap64 ((wrap64 ((wrap64 (a0 * a1)) * a1)) * x14_2)) * (wrap64 ((wrap64 (a4 + 1)) - x14_2)))))), .int .i64 (wrap64 ((wrap64 ((wrap64 (2 * a2)) * (wrap64 (a4 + 1)))) * (wrap64 (a4 + 1))))] rfl (by (try simp only [List.map_toArray, List.map_cons, List.map_nil]); first | done | rfl | (simp only [List.length_drop, List.length_take]; rfl)) ?_; (with_reducible refine (dropperref02_ratio.calls k2 (wrap64 ((wrap64 (a3 * (wrap64 ((wrap64 ((wrap64 (2 * a2)) * (wrap64 (a4 + 1)))) * (wrap64 (a4 + 1)))))) - (wrap64 ((wrap64 ((wrap64 ((wrap64 (a0 * a1)) * a1)) * x14_2)) * (wrap64 ((wrap64 (a4 + 1)) - x14_2)))))) (wrap64 ((wrap64 ((wrap64 (2 * a2)) * (wrap64 (a4 + 1)))) * (wrap64 (a4 + 1)))) t104 t105 _ A15.out).mono ?_); rintro e w17 ⟨rfl, hb⟩; refine ⟨_, rfl, ?_⟩; have n0_ := Aside0.mk (Kd.R_below (by (with_reducible repeat (first | apply Kd.R_alloc | apply Kd.R_drewN | apply Kd.R_drew)); exact HO_13.out) hb); have n1_ := Aside0.mk (below_step (by repeat (first | (with_reducible first | exact HB.out | apply below_alloc | apply pw_below_drewN | apply below_drew1) | exact HB.out)) hb); clear HO_13; clear HB; have HO_13 := n0_; have HB := n1_; clear n0_ n1_; (try clear hb); (try clear hb2); (try clear hk); (try clear hi)) | ((with_reducible refine gate_builtin (b := .append) (xs := #[.tmp 61, .tmp 69]) rfl ?_); at_builtin; refine Kd.R_append k55 (w0 := w) w.heap.size rfl (.tmp 61) (.tmp 69) 59 55 (.agg #[(.int .i64 0), (.int .i64 0)]) 16 rfl Try.underlying59 info55 rfl (by decide) (by omega) u13 x13_2 (⟨t104, t105⟩ : S55) [.int .i64 t104, .int .i64 t105] (fun _ => True) (fun _ => False) rfl rfl ?aP (fun _ hk => hk.elim) ?aF ?aO ?aB ?aS ?aL ?_; (case aP => exact k55_mkM _ _ _ (⟨t104, t105⟩ : S55)); (case aB => exact (by repeat (first | (with_reducible first | exact HB.out | apply below_alloc | apply pw_below_drewN | apply below_drew1) | exact HB.out))); (case aF => exact (fun _ _ => trivial)); (case aO => exact (by (with_reducible repeat (first | apply Kd.R_alloc | apply Kd.R_drewN | apply Kd.R_drew)); exact HO_13.out)); (case aS => exact (below_size (by repeat (first | (with_reducible first | exact HB.out | apply below_alloc | apply pw_below_drewN | apply below_drew1) | exact HB.out)))); (case aL => have := LMc16.out; omega); intro v107 w18 ho hb hg hat; rw [← Ny106.out] at ho; have n0_ := Aside0.mk (hb); have n1_ := Aside0.mk (ho); clear HB; clear HO_13; have HB := n0_; have HO108 := n1_; clear n0_ n1_; clear ho hb hg hat))
          go_roundg k2
          case measure => have := HJ5.out; have := HK2.out; omega
          case rel => exact ⟨(y106), (wrap64 (x14_2 + 1)), (by first | rfl | (simp; done) | (simp [*]; done)), H', ⟨by have := HJ5.out; have := HK2.out; omega⟩, ⟨by (with_reducible repeat (first | apply Kd.R_alloc | apply Kd.R_drewN | apply Kd.R_drew)); exact HO108.out⟩, ⟨by repeat (first | (with_reducible first | exact HB.out | apply below_alloc | apply pw_below_drewN | apply below_drew1) | exact HB.out)⟩⟩
end Go.Proofs.Ytciepmpadcpkbaa.G
