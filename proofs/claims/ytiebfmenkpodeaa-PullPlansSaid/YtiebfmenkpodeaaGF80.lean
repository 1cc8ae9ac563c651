-- Written by this session's driver (wip/tools/printmore.py) over the kit's print, with hand-written parts.
import Derived.Test.YtiebfmenkpodeaaGBase
import Derived.Test.YtiebfmenkpodeaaGF52
namespace Go.Proofs.Ytiebfmenkpodeaa.G
open Go.RowKit Go.Proofs.YtiebfmenkpodeaaW.PrintWords Go.Proofs.YtiebfmenkpodeaaW.PrintLast Go.Proofs.YtiebfmenkpodeaaW.PrintMore
attribute [local go_sem] max2_int min2_int max_two min_two max_three min_three max_four min_four   -- for this text's walks alone
set_option linter.unusedVariables false
set_option linter.unusedSimpArgs false

/-! ### dropperref04_ascends: function 80 -/
def dropperref04_ascends.l0 : Nat → List Int → List Int → Int → Option (Bool)
  | 0, _, _, _ => none
  | k + 1, x0, x1, x5 => if x5 < (x1.length : Int) then (if 0 ≤ x5 then ((dropperref04_from.f 0 (rd x1 x5) (wrap64 ((x0.length : Int) - 1))).bind fun t102 => (if t102 = true then (if x5 > 0 then (if 0 ≤ (wrap64 (x5 - 1)) then (if (wrap64 (x5 - 1)) < (x1.length : Int) then (if (rd x1 x5) ≤ (rd x1 (wrap64 (x5 - 1))) then (some false) else (dropperref04_ascends.l0 k x0 x1 (wrap64 (x5 + 1)))) else (none)) else (none)) else (dropperref04_ascends.l0 k x0 x1 (wrap64 (x5 + 1)))) else (some false))) else (none)) else (if (x1.length : Int) > 1 then (if 0 < (x1.length : Int) then (if (rd x1 0) = 0 then (if 0 ≤ (wrap64 ((x1.length : Int) - 1)) then (if (wrap64 ((x1.length : Int) - 1)) < (x1.length : Int) then (some ((rd x1 (wrap64 ((x1.length : Int) - 1))) == (wrap64 ((x0.length : Int) - 1)))) else (none)) else (none)) else (some false)) else (none)) else (some false))
def dropperref04_ascends.f (k : Nat) (l0 : List Int) (l1 : List Int) : Option (Bool) := dropperref04_ascends.l0 k l0 l1 0
theorem dropperref04_ascends.mono_l : ∀ k, (∀ y0 y1 y2, LeO (dropperref04_ascends.l0 k y0 y1 y2) (dropperref04_ascends.l0 (k + 1) y0 y1 y2))
  | 0 => fun _ _ _ r h => by simp [dropperref04_ascends.l0] at h
  | k + 1 => by
    have ih0 := dropperref04_ascends.mono_l k
    · intro y0 y1 y2
      unfold dropperref04_ascends.l0
      repeat' first
      | (with_reducible exact ih0 _ _ _)
      | (with_reducible exact LeO.refl _)
      | (with_reducible exact LeO.none _)
      | (with_reducible refine LeO.ite ?_ ?_)
      | (with_reducible refine LeO.bind ?_ (fun _ => ?_))
      | exact ih0 _ _ _
      | exact LeO.none _
      | refine LeO.ite ?_ ?_
      | refine LeO.bind ?_ (fun _ => ?_)
theorem dropperref04_ascends.mono : ∀ a0 a1 k, LeO (dropperref04_ascends.f k a0 a1) (dropperref04_ascends.f (k + 1) a0 a1) := by
  intro a0 a1 k
  have ih0 := dropperref04_ascends.mono_l k
  unfold dropperref04_ascends.f
  repeat' first
      | (with_reducible exact ih0 _ _ _)
      | (with_reducible exact LeO.refl _)
      | (with_reducible exact LeO.none _)
      | (with_reducible refine LeO.ite ?_ ?_)
      | (with_reducible refine LeO.bind ?_ (fun _ => ?_))
      | exact ih0 _ _ _
      | exact LeO.none _
      | refine LeO.ite ?_ ?_
      | refine LeO.bind ?_ (fun _ => ?_)
set_option maxHeartbeats 8000000 in
set_option maxRecDepth 100000 in
theorem dropperref04_ascends.calls (k : Nat) (A0 : Option Addr) (c0 : Nat) (l0 : List Int) (A1 : Option Addr) (c1 : Nat) (l1 : List Int) (r : Bool) (w : World) (hr0 : Kd.C (Kd.int .i64) w A0 l0.length l0) (hc0 : l0.length ≤ c0) (hr1 : Kd.C (Kd.int .i64) w A1 l1.length l1) (hc1 : l1.length ≤ c1) (h : dropperref04_ascends.f k l0 l1 = some r) :
    Calls Try.prog 80 #[.slice A0 l0.length c0, .slice A1 l1.length c1] w fun e w' => e = .returned (.bool r) ∧ Drawn0 w w' := by
  have HR0 := Aside0.mk hr0
  have HC0 := Aside0.mk hc0
  clear hr0 hc0
  have HR1 := Aside0.mk hr1
  have HC1 := Aside0.mk hc1
  clear hr1 hc1
  have H : (dropperref04_ascends.l0 k l0 l1 0) = some r := h
  clear h
  have H' := Aside0.mk H
  clear H
  go_enter Try.func80, Try.ntmps80
  go_wp2
  repeat (go_quiet (fail); try go_wp2)
  go_loopg [5] k (fun kq v5 w' => ∃ (x5_1 : Int), v5 = .int .i64 x5_1 ∧ Aside0 (dropperref04_ascends.l0 kq l0 l1 x5_1 = some r) ∧ Aside0 (kq ≤ k) ∧ Drawn0 w w')
  case atStart => exact ⟨(0), (by first | rfl | (simp; done) | (simp [*]; done)), H', ⟨Nat.le_refl _⟩, by repeat (first | exact Drawn0.refl _ | apply Drawn0.step)⟩
  case round =>
    clear H'
    try clear c1
    try clear p2
    obtain ⟨x5_1, rfl, HA, HK1, ⟨m1, rfl⟩⟩ := hrel
    cases gk with
    | zero => exact absurd HA.out (by simp [dropperref04_ascends.l0])
    | succ k1 =>
      have H := HA.out
      clear HA
      simp only [dropperref04_ascends.l0] at H
      by_cases c3 : x5_1 < (l1.length : Int)
      rotate_left
      · rw [if_neg c3] at H
        have c3b0 : decide (x5_1 < (l1.length : Int)) = false := decide_eq_false c3
        clear c3
        by_cases c12 : (l1.length : Int) > 1
        rotate_left
        · rw [if_neg c12] at H
          have c12b0 : decide (1 < (l1.length : Int)) = false := decide_eq_false c12
          have c12b1 : decide (1 < l1.length) = false := decide_eq_false (by omega)
          clear c12
          obtain rfl := Option.some.inj H
          go_wp2
          repeat (go_quiet (fail); try go_wp2)
          go_ret
          exact ⟨by first | rfl | (simp; done) | (simp [*]; done), by repeat (first | exact Drawn0.refl _ | apply Drawn0.step)⟩

        rw [if_pos c12] at H
        have c12b0 : decide (1 < (l1.length : Int)) = true := decide_eq_true c12
        have c12b1 : decide (1 < l1.length) = true := decide_eq_true (by omega)
        clear c12
        by_cases c13 : 0 < (l1.length : Int)
        rotate_left
        · rw [if_neg c13] at H
          exact absurd H (by simp)
        rw [if_pos c13] at H
        have c13b0 : decide (0 < (l1.length : Int)) = true := decide_eq_true c13
        have c13b1 : decide (0 < l1.length) = true := decide_eq_true (by omega)
        clear c13
        by_cases c14 : (rd l1 0) = 0
        rotate_left
        · rw [if_neg c14] at H
          have c14b0 : ((rd l1 0) == 0) = false := beq_eq_false_iff_ne.mpr c14
          have c14b1 : ((rd l1 0) != 0) = true := bne_iff_ne.mpr c14
          obtain rfl := Option.some.inj H
          have p105 : 0 ≤ (0 : Int) := (by omega)
          have q105 : 0 < (l1.length : Int) := of_decide_eq_true (by first | (with_reducible assumption) | assumption)
          obtain ⟨ad105, e105, hx105_0⟩ := Kd.at_int HR1.out 0 p105 q105
          cases e105
          have qi105 : (0 < l1.length) = True := eq_true (by omega)
          (try rw [show ((0 : Int)).toNat = 0 from rfl] at hx105_0)
          (try rw [Addr.add_zero'] at hx105_0)
          replace p105 := eq_true p105
          replace q105 := eq_true q105
          go_wp2
          repeat (go_quiet (fail); try go_wp2)
          go_ret
          exact ⟨by first | rfl | (simp; done) | (simp [*]; done), by repeat (first | exact Drawn0.refl _ | apply Drawn0.step)⟩
        rw [if_pos c14] at H
        have c14b0 : ((rd l1 0) == 0) = true := beq_iff_eq.mpr c14
        have c14b1 : ((rd l1 0) != 0) = false := bne_eq_false_iff_eq.mpr c14
        clear c14
        obtain ⟨ji15, hji15⟩ : ∃ j_ : Int, (wrap64 ((l1.length : Int) - 1)) = j_ := ⟨_, rfl⟩
        replace H : (if 0 ≤ (ji15) then (if (ji15) < (l1.length : Int) then (some ((rd l1 (ji15)) == (wrap64 ((l0.length : Int) - 1)))) else (none)) else (none)) = some r := by first | (rw [hji15] at H; exact H) | (simp only [hji15] at H ⊢; exact H)
        have hji15w : (IntKind.i64.wrap ((l1.length : Int) - 1)) = ji15 := (i64_w _).trans hji15
        by_cases c16 : 0 ≤ (ji15)
        rotate_left
        · rw [if_neg c16] at H
          exact absurd H (by simp)
        rw [if_pos c16] at H
        have c16b0 : decide (0 ≤ (ji15)) = true := decide_eq_true c16
        clear c16
        by_cases c17 : (ji15) < (l1.length : Int)
        rotate_left
        · rw [if_neg c17] at H
          exact absurd H (by simp)
        rw [if_pos c17] at H
        have c17b0 : decide ((ji15) < (l1.length : Int)) = true := decide_eq_true c17
        clear c17
        obtain rfl := Option.some.inj H
        have p105 : 0 ≤ (0 : Int) := (by omega)
        have q105 : 0 < (l1.length : Int) := of_decide_eq_true (by first | (with_reducible assumption) | assumption)
        obtain ⟨ad105, e105, hx105_0⟩ := Kd.at_int HR1.out 0 p105 q105
        cases e105
        have qi105 : (0 < l1.length) = True := eq_true (by omega)
        (try rw [show ((0 : Int)).toNat = 0 from rfl] at hx105_0)
        (try rw [Addr.add_zero'] at hx105_0)
        replace p105 := eq_true p105
        replace q105 := eq_true q105
        have p106 : 0 ≤ ((ji15) : Int) := of_decide_eq_true (by first | (with_reducible assumption) | assumption)
        have q106 : (ji15) < (l1.length : Int) := of_decide_eq_true (by first | (with_reducible assumption) | assumption)
        obtain ⟨ad106, e106, hx106_0⟩ := Kd.at_int HR1.out (ji15) p106 q106
        obtain rfl : ad105 = ad106 := (by injection e106)
        replace p106 := eq_true p106
        replace q106 := eq_true q106
        go_wp2
        repeat (go_quiet (fail); try go_wp2)
        go_ret
        exact ⟨by first | rfl | (simp; done) | (simp only [← hji15] <;> (first | rfl | simp)) | (simp [*]; done), by repeat (first | exact Drawn0.refl _ | apply Drawn0.step)⟩
      rw [if_pos c3] at H
      have c3b0 : decide (x5_1 < (l1.length : Int)) = true := decide_eq_true c3
      clear c3
      by_cases c4 : 0 ≤ x5_1
      rotate_left
      · rw [if_neg c4] at H
        exact absurd H (by simp)
      rw [if_pos c4] at H
      have c4b0 : decide (0 ≤ x5_1) = true := decide_eq_true c4
      clear c4
      replace H := Option.bind_eq_some_iff.mp H
      obtain ⟨t102, A50, H⟩ := H
      replace H : (if t102 = true then (if x5_1 > 0 then (if 0 ≤ (wrap64 (x5_1 - 1)) then (if (wrap64 (x5_1 - 1)) < (l1.length : Int) then (if (rd l1 x5_1) ≤ (rd l1 (wrap64 (x5_1 - 1))) then (some false) else (dropperref04_ascends.l0 k1 l0 l1 (wrap64 (x5_1 + 1)))) else (none)) else (none)) else (dropperref04_ascends.l0 k1 l0 l1 (wrap64 (x5_1 + 1)))) else (some false)) = some r := H
      have A5 := Aside0.mk A50
      clear A50
      by_cases c6 : t102 = true
      rotate_left
      · replace c6 := Bool.eq_false_iff.mpr c6
        subst c6
        have H1 : (some false) = some r := by rw [if_neg (show ¬ (false = true) by decide)] at H; exact H
        clear H
        have H := H1
        clear H1
        obtain rfl := Option.some.inj H
        have p101 : 0 ≤ (x5_1 : Int) := of_decide_eq_true (by first | (with_reducible assumption) | assumption)
        have q101 : x5_1 < (l1.length : Int) := of_decide_eq_true (by first | (with_reducible assumption) | assumption)
        obtain ⟨ad101, e101, hx101_0⟩ := Kd.at_int HR1.out x5_1 p101 q101
        cases e101
        replace p101 := eq_true p101
        replace q101 := eq_true q101
        go_wp2_with (first | (go_at_call 52; (try simp only [i64_w]); (with_reducible refine (dropperref04_from.calls 0 (rd l1 x5_1) (wrap64 ((l0.length : Int) - 1)) false _ A5.out).mono ?_); rintro e w' ⟨rfl, ⟨nd, rfl⟩⟩; (try first | exact ⟨rfl, _, World.drewN_drewN _ _ _⟩ | exact ⟨rfl, _, Eq.trans (World.drewN_drewN _ _ _) (congrArg (World.drewN _) (Nat.add_assoc _ _ _))⟩)))
        repeat (go_quiet (first | (go_at_call 52; (try simp only [i64_w]); (with_reducible refine (dropperref04_from.calls 0 (rd l1 x5_1) (wrap64 ((l0.length : Int) - 1)) false _ A5.out).mono ?_); rintro e w' ⟨rfl, ⟨nd, rfl⟩⟩; (try first | exact ⟨rfl, _, World.drewN_drewN _ _ _⟩ | exact ⟨rfl, _, Eq.trans (World.drewN_drewN _ _ _) (congrArg (World.drewN _) (Nat.add_assoc _ _ _))⟩))); try go_wp2_with (first | (go_at_call 52; (try simp only [i64_w]); (with_reducible refine (dropperref04_from.calls 0 (rd l1 x5_1) (wrap64 ((l0.length : Int) - 1)) false _ A5.out).mono ?_); rintro e w' ⟨rfl, ⟨nd, rfl⟩⟩; (try first | exact ⟨rfl, _, World.drewN_drewN _ _ _⟩ | exact ⟨rfl, _, Eq.trans (World.drewN_drewN _ _ _) (congrArg (World.drewN _) (Nat.add_assoc _ _ _))⟩))))
        go_ret
        exact ⟨by first | rfl | (simp; done) | (simp [*]; done), by repeat (first | exact Drawn0.refl _ | apply Drawn0.step)⟩
      subst c6
      have H1 : (if x5_1 > 0 then (if 0 ≤ (wrap64 (x5_1 - 1)) then (if (wrap64 (x5_1 - 1)) < (l1.length : Int) then (if (rd l1 x5_1) ≤ (rd l1 (wrap64 (x5_1 - 1))) then (some false) else (dropperref04_ascends.l0 k1 l0 l1 (wrap64 (x5_1 + 1)))) else (none)) else (none)) else (dropperref04_ascends.l0 k1 l0 l1 (wrap64 (x5_1 + 1)))) = some r := by rw [if_pos rfl] at H; exact H
      clear H
      have H := H1
      clear H1
      by_cases c7 : x5_1 > 0
      rotate_left
      · rw [if_neg c7] at H
        have c7b0 : decide (0 < x5_1) = false := decide_eq_false c7
        clear c7
        have H' := Aside0.mk H
        clear H
        have p101 : 0 ≤ (x5_1 : Int) := of_decide_eq_true (by first | (with_reducible assumption) | assumption)
        have q101 : x5_1 < (l1.length : Int) := of_decide_eq_true (by first | (with_reducible assumption) | assumption)
        obtain ⟨ad101, e101, hx101_0⟩ := Kd.at_int HR1.out x5_1 p101 q101
        cases e101
        replace p101 := eq_true p101
        replace q101 := eq_true q101
        go_wp2_with (first | (go_at_call 52; (try simp only [i64_w]); (with_reducible refine (dropperref04_from.calls 0 (rd l1 x5_1) (wrap64 ((l0.length : Int) - 1)) true _ A5.out).mono ?_); rintro e w' ⟨rfl, ⟨nd, rfl⟩⟩; (try first | exact ⟨rfl, _, World.drewN_drewN _ _ _⟩ | exact ⟨rfl, _, Eq.trans (World.drewN_drewN _ _ _) (congrArg (World.drewN _) (Nat.add_assoc _ _ _))⟩)))
        repeat (go_quiet (first | (go_at_call 52; (try simp only [i64_w]); (with_reducible refine (dropperref04_from.calls 0 (rd l1 x5_1) (wrap64 ((l0.length : Int) - 1)) true _ A5.out).mono ?_); rintro e w' ⟨rfl, ⟨nd, rfl⟩⟩; (try first | exact ⟨rfl, _, World.drewN_drewN _ _ _⟩ | exact ⟨rfl, _, Eq.trans (World.drewN_drewN _ _ _) (congrArg (World.drewN _) (Nat.add_assoc _ _ _))⟩))); try go_wp2_with (first | (go_at_call 52; (try simp only [i64_w]); (with_reducible refine (dropperref04_from.calls 0 (rd l1 x5_1) (wrap64 ((l0.length : Int) - 1)) true _ A5.out).mono ?_); rintro e w' ⟨rfl, ⟨nd, rfl⟩⟩; (try first | exact ⟨rfl, _, World.drewN_drewN _ _ _⟩ | exact ⟨rfl, _, Eq.trans (World.drewN_drewN _ _ _) (congrArg (World.drewN _) (Nat.add_assoc _ _ _))⟩))))
        go_roundg k1
        case measure => have := HK1.out; omega
        case rel => exact ⟨(wrap64 (x5_1 + 1)), (by first | rfl | (simp; done) | (simp [*]; done)), H', ⟨by have := HK1.out; omega⟩, by repeat (first | exact Drawn0.refl _ | apply Drawn0.step)⟩
      rw [if_pos c7] at H
      have c7b0 : decide (0 < x5_1) = true := decide_eq_true c7
      clear c7
      obtain ⟨ji8, hji8⟩ : ∃ j_ : Int, (wrap64 (x5_1 - 1)) = j_ := ⟨_, rfl⟩
      replace H : (if 0 ≤ (ji8) then (if (ji8) < (l1.length : Int) then (if (rd l1 x5_1) ≤ (rd l1 (ji8)) then (some false) else (dropperref04_ascends.l0 k1 l0 l1 (wrap64 (x5_1 + 1)))) else (none)) else (none)) = some r := by first | (rw [hji8] at H; exact H) | (simp only [hji8] at H ⊢; exact H)
      (try rw [hji8] at A5)
      have hji8w : (IntKind.i64.wrap (x5_1 - 1)) = ji8 := (i64_w _).trans hji8
      by_cases c9 : 0 ≤ (ji8)
      rotate_left
      · rw [if_neg c9] at H
        exact absurd H (by simp)
      rw [if_pos c9] at H
      have c9b0 : decide (0 ≤ (ji8)) = true := decide_eq_true c9
      clear c9
      by_cases c10 : (ji8) < (l1.length : Int)
      rotate_left
      · rw [if_neg c10] at H
        exact absurd H (by simp)
      rw [if_pos c10] at H
      have c10b0 : decide ((ji8) < (l1.length : Int)) = true := decide_eq_true c10
      clear c10
      by_cases c11 : (rd l1 x5_1) ≤ (rd l1 (ji8))
      · rw [if_pos c11] at H
        have c11b0 : decide ((rd l1 x5_1) ≤ (rd l1 (ji8))) = true := decide_eq_true c11
        clear c11
        obtain rfl := Option.some.inj H
        have p101 : 0 ≤ (x5_1 : Int) := of_decide_eq_true (by first | (with_reducible assumption) | assumption)
        have q101 : x5_1 < (l1.length : Int) := of_decide_eq_true (by first | (with_reducible assumption) | assumption)
        obtain ⟨ad101, e101, hx101_0⟩ := Kd.at_int HR1.out x5_1 p101 q101
        cases e101
        replace p101 := eq_true p101
        replace q101 := eq_true q101
        go_wp2_with (first | (go_at_call 52; (try simp only [i64_w]); (with_reducible refine (dropperref04_from.calls 0 (rd l1 x5_1) (wrap64 ((l0.length : Int) - 1)) true _ A5.out).mono ?_); rintro e w' ⟨rfl, ⟨nd, rfl⟩⟩; (try first | exact ⟨rfl, _, World.drewN_drewN _ _ _⟩ | exact ⟨rfl, _, Eq.trans (World.drewN_drewN _ _ _) (congrArg (World.drewN _) (Nat.add_assoc _ _ _))⟩); have p103 : 0 ≤ (x5_1 : Int) := of_decide_eq_true (by first | (with_reducible assumption) | assumption); have q103 : x5_1 < (l1.length : Int) := of_decide_eq_true (by first | (with_reducible assumption) | assumption); obtain ⟨ad103, e103, hx103_0⟩ := Kd.at_int HR1.out x5_1 p103 q103; obtain rfl : ad101 = ad103 := (by injection e103); replace p103 := eq_true p103; replace q103 := eq_true q103; have p104 : 0 ≤ ((ji8) : Int) := of_decide_eq_true (by first | (with_reducible assumption) | assumption); have q104 : (ji8) < (l1.length : Int) := of_decide_eq_true (by first | (with_reducible assumption) | assumption); obtain ⟨ad104, e104, hx104_0⟩ := Kd.at_int HR1.out (ji8) p104 q104; obtain rfl : ad101 = ad104 := (by injection e104); replace p104 := eq_true p104; replace q104 := eq_true q104))
        repeat (go_quiet (first | (go_at_call 52; (try simp only [i64_w]); (with_reducible refine (dropperref04_from.calls 0 (rd l1 x5_1) (wrap64 ((l0.length : Int) - 1)) true _ A5.out).mono ?_); rintro e w' ⟨rfl, ⟨nd, rfl⟩⟩; (try first | exact ⟨rfl, _, World.drewN_drewN _ _ _⟩ | exact ⟨rfl, _, Eq.trans (World.drewN_drewN _ _ _) (congrArg (World.drewN _) (Nat.add_assoc _ _ _))⟩); have p103 : 0 ≤ (x5_1 : Int) := of_decide_eq_true (by first | (with_reducible assumption) | assumption); have q103 : x5_1 < (l1.length : Int) := of_decide_eq_true (by first | (with_reducible assumption) | assumption); obtain ⟨ad103, e103, hx103_0⟩ := Kd.at_int HR1.out x5_1 p103 q103; obtain rfl : ad101 = ad103 := (by injection e103); replace p103 := eq_true p103; replace q103 := eq_true q103; have p104 : 0 ≤ ((ji8) : Int) := of_decide_eq_true (by first | (with_reducible assumption) | assumption); have q104 : (ji8) < (l1.length : Int) := of_decide_eq_true (by first | (with_reducible assumption) | assumption); obtain ⟨ad104, e104, hx104_0⟩ := Kd.at_int HR1.out (ji8) p104 q104; obtain rfl : ad101 = ad104 := (by injection e104); replace p104 := eq_true p104; replace q104 := eq_true q104)); try go_wp2_with (first | (go_at_call 52; (try simp only [i64_w]); (with_reducible refine (dropperref04_from.calls 0 (rd l1 x5_1) (wrap64 ((l0.length : Int) - 1)) true _ A5.out).mono ?_); rintro e w' ⟨rfl, ⟨nd, rfl⟩⟩; (try first | exact ⟨rfl, _, World.drewN_drewN _ _ _⟩ | exact ⟨rfl, _, Eq.trans (World.drewN_drewN _ _ _) (congrArg (World.drewN _) (Nat.add_assoc _ _ _))⟩); have p103 : 0 ≤ (x5_1 : Int) := of_decide_eq_true (by first | (with_reducible assumption) | assumption); have q103 : x5_1 < (l1.length : Int) := of_decide_eq_true (by first | (with_reducible assumption) | assumption); obtain ⟨ad103, e103, hx103_0⟩ := Kd.at_int HR1.out x5_1 p103 q103; obtain rfl : ad101 = ad103 := (by injection e103); replace p103 := eq_true p103; replace q103 := eq_true q103; have p104 : 0 ≤ ((ji8) : Int) := of_decide_eq_true (by first | (with_reducible assumption) | assumption); have q104 : (ji8) < (l1.length : Int) := of_decide_eq_true (by first | (with_reducible assumption) | assumption); obtain ⟨ad104, e104, hx104_0⟩ := Kd.at_int HR1.out (ji8) p104 q104; obtain rfl : ad101 = ad104 := (by injection e104); replace p104 := eq_true p104; replace q104 := eq_true q104)))
        go_ret
        exact ⟨by first | rfl | (simp; done) | (simp only [← hji8] <;> (first | rfl | simp)) | (simp [*]; done), by repeat (first | exact Drawn0.refl _ | apply Drawn0.step)⟩
      rw [if_neg c11] at H
      have c11b0 : decide ((rd l1 x5_1) ≤ (rd l1 (ji8))) = false := decide_eq_false c11
      clear c11
      have H' := Aside0.mk H
      clear H
      have p101 : 0 ≤ (x5_1 : Int) := of_decide_eq_true (by first | (with_reducible assumption) | assumption)
      have q101 : x5_1 < (l1.length : Int) := of_decide_eq_true (by first | (with_reducible assumption) | assumption)
      obtain ⟨ad101, e101, hx101_0⟩ := Kd.at_int HR1.out x5_1 p101 q101
      cases e101
      replace p101 := eq_true p101
      replace q101 := eq_true q101
      go_wp2_with (first | (go_at_call 52; (try simp only [i64_w]); (with_reducible refine (dropperref04_from.calls 0 (rd l1 x5_1) (wrap64 ((l0.length : Int) - 1)) true _ A5.out).mono ?_); rintro e w' ⟨rfl, ⟨nd, rfl⟩⟩; (try first | exact ⟨rfl, _, World.drewN_drewN _ _ _⟩ | exact ⟨rfl, _, Eq.trans (World.drewN_drewN _ _ _) (congrArg (World.drewN _) (Nat.add_assoc _ _ _))⟩); have p103 : 0 ≤ (x5_1 : Int) := of_decide_eq_true (by first | (with_reducible assumption) | assumption); have q103 : x5_1 < (l1.length : Int) := of_decide_eq_true (by first | (with_reducible assumption) | assumption); obtain ⟨ad103, e103, hx103_0⟩ := Kd.at_int HR1.out x5_1 p103 q103; obtain rfl : ad101 = ad103 := (by injection e103); replace p103 := eq_true p103; replace q103 := eq_true q103; have p104 : 0 ≤ ((ji8) : Int) := of_decide_eq_true (by first | (with_reducible assumption) | assumption); have q104 : (ji8) < (l1.length : Int) := of_decide_eq_true (by first | (with_reducible assumption) | assumption); obtain ⟨ad104, e104, hx104_0⟩ := Kd.at_int HR1.out (ji8) p104 q104; obtain rfl : ad101 = ad104 := (by injection e104); replace p104 := eq_true p104; replace q104 := eq_true q104))
      repeat (go_quiet (first | (go_at_call 52; (try simp only [i64_w]); (with_reducible refine (dropperref04_from.calls 0 (rd l1 x5_1) (wrap64 ((l0.length : Int) - 1)) true _ A5.out).mono ?_); rintro e w' ⟨rfl, ⟨nd, rfl⟩⟩; (try first | exact ⟨rfl, _, World.drewN_drewN _ _ _⟩ | exact ⟨rfl, _, Eq.trans (World.drewN_drewN _ _ _) (congrArg (World.drewN _) (Nat.add_assoc _ _ _))⟩); have p103 : 0 ≤ (x5_1 : Int) := of_decide_eq_true (by first | (with_reducible assumption) | assumption); have q103 : x5_1 < (l1.length : Int) := of_decide_eq_true (by first | (with_reducible assumption) | assumption); obtain ⟨ad103, e103, hx103_0⟩ := Kd.at_int HR1.out x5_1 p103 q103; obtain rfl : ad101 = ad103 := (by injection e103); replace p103 := eq_true p103; replace q103 := eq_true q103; have p104 : 0 ≤ ((ji8) : Int) := of_decide_eq_true (by first | (with_reducible assumption) | assumption); have q104 : (ji8) < (l1.length : Int) := of_decide_eq_true (by first | (with_reducible assumption) | assumption); obtain ⟨ad104, e104, hx104_0⟩ := Kd.at_int HR1.out (ji8) p104 q104; obtain rfl : ad101 = ad104 := (by injection e104); replace p104 := eq_true p104; replace q104 := eq_true q104)); try go_wp2_with (first | (go_at_call 52; (try simp only [i64_w]); (with_reducible refine (dropperref04_from.calls 0 (rd l1 x5_1) (wrap64 ((l0.length : Int) - 1)) true _ A5.out).mono ?_); rintro e w' ⟨rfl, ⟨nd, rfl⟩⟩; (try first | exact ⟨rfl, _, World.drewN_drewN _ _ _⟩ | exact ⟨rfl, _, Eq.trans (World.drewN_drewN _ _ _) (congrArg (World.drewN _) (Nat.add_assoc _ _ _))⟩); have p103 : 0 ≤ (x5_1 : Int) := of_decide_eq_true (by first | (with_reducible assumption) | assumption); have q103 : x5_1 < (l1.length : Int) := of_decide_eq_true (by first | (with_reducible assumption) | assumption); obtain ⟨ad103, e103, hx103_0⟩ := Kd.at_int HR1.out x5_1 p103 q103; obtain rfl : ad101 = ad103 := (by injection e103); replace p103 := eq_true p103; replace q103 := eq_true q103; have p104 : 0 ≤ ((ji8) : Int) := of_decide_eq_true (by first | (with_reducible assumption) | assumption); have q104 : (ji8) < (l1.length : Int) := of_decide_eq_true (by first | (with_reducible assumption) | assumption); obtain ⟨ad104, e104, hx104_0⟩ := Kd.at_int HR1.out (ji8) p104 q104; obtain rfl : ad101 = ad104 := (by injection e104); replace p104 := eq_true p104; replace q104 := eq_true q104)))
      go_roundg k1
      case measure => have := HK1.out; omega
      case rel => exact ⟨(wrap64 (x5_1 + 1)), (by first | rfl | (simp; done) | (simp [*]; done)), H', ⟨by have := HK1.out; omega⟩, by repeat (first | exact Drawn0.refl _ | apply Drawn0.step)⟩
end Go.Proofs.Ytiebfmenkpodeaa.G
