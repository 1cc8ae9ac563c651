-- Written by this session's driver (wip/tools/printmore.py) over the kit's print, with hand-written parts.
import Derived.Test.YtiebfmenkpodeaaGBase
import Derived.Test.YtiebfmenkpodeaaGF62
namespace Go.Proofs.Ytiebfmenkpodeaa.G
open Go.RowKit Go.Proofs.YtiebfmenkpodeaaW.PrintWords Go.Proofs.YtiebfmenkpodeaaW.PrintLast Go.Proofs.YtiebfmenkpodeaaW.PrintMore
attribute [local go_sem] max2_int min2_int max_two min_two max_three min_three max_four min_four   -- for this text's walks alone
set_option linter.unusedVariables false
set_option linter.unusedSimpArgs false

/-! ### dropperref04_lengths: function 81 -/
mutual
def dropperref04_lengths.l0 : Nat → List Int → Int → Int → List (List Bool) → Int → Option ((List (List Bool)))
  | 0, _, _, _, _, _ => none
  | k + 1, x0, x1, x2, x7, x8 => if x8 ≥ 0 then (if 0 ≤ (wrap64 ((x0.length : Int) + 1)) then (if (wrap64 ((x0.length : Int) + 1) : Int).toNat ≤ 281474976710656 then (if 0 ≤ x8 then (if x8 < (x7.length : Int) then ((some (x7.set (x8 : Int).toNat (List.replicate (wrap64 ((x0.length : Int) + 1) : Int).toNat false) : List (List Bool))).bind fun y107 => (if 0 < ((rd_L3 y107 x8).length : Int) then (dropperref04_lengths.l1 k x0 x1 x2 (y107.set (x8 : Int).toNat ((rd_L3 y107 x8).set (0 : Int).toNat (x8 == (wrap64 ((x0.length : Int) - 1))))) x8 (wrap64 (x8 + 1))) else (none))) else (none)) else (none)) else (none)) else (none)) else (some x7)
def dropperref04_lengths.l1 : Nat → List Int → Int → Int → List (List Bool) → Int → Int → Option ((List (List Bool)))
  | 0, _, _, _, _, _, _ => none
  | k + 1, x0, x1, x2, x7, x8, x9 => if x9 < (x0.length : Int) then (dropperref04_lengths.l2 k x0 x1 x2 x7 x8 x9 0) else (dropperref04_lengths.l0 k x0 x1 x2 x7 (wrap64 (x8 - 1)))
def dropperref04_lengths.l2 : Nat → List Int → Int → Int → List (List Bool) → Int → Int → Int → Option ((List (List Bool)))
  | 0, _, _, _, _, _, _, _ => none
  | k + 1, x0, x1, x2, x7, x8, x9, x10 => if x10 < (x0.length : Int) then ((dropperref04_may.f x0 x1 x2 x8 x9).bind fun t112 => (if t112 = true then (if 0 ≤ x8 then (if x8 < (x7.length : Int) then (if 0 ≤ (wrap64 (x10 + 1)) then (if (wrap64 (x10 + 1)) < ((rd_L3 x7 x8).length : Int) then (if rdOf false (rd_L3 x7 x8) (wrap64 (x10 + 1)) = true then (dropperref04_lengths.l2 k x0 x1 x2 (x7.set (x8 : Int).toNat ((rd_L3 x7 x8).set ((wrap64 (x10 + 1)) : Int).toNat true)) x8 x9 (wrap64 (x10 + 1))) else (if 0 ≤ x9 then (if x9 < (x7.length : Int) then (if 0 ≤ x10 then (if x10 < ((rd_L3 x7 x9).length : Int) then (dropperref04_lengths.l2 k x0 x1 x2 (x7.set (x8 : Int).toNat ((rd_L3 x7 x8).set ((wrap64 (x10 + 1)) : Int).toNat (rdOf false (rd_L3 x7 x9) x10))) x8 x9 (wrap64 (x10 + 1))) else (none)) else (none)) else (none)) else (none))) else (none)) else (none)) else (none)) else (none)) else (dropperref04_lengths.l1 k x0 x1 x2 x7 x8 (wrap64 (x9 + 1))))) else (dropperref04_lengths.l1 k x0 x1 x2 x7 x8 (wrap64 (x9 + 1)))
end
def dropperref04_lengths.f (k : Nat) (l0 : List Int) (a1 : Int) (a2 : Int) : Option ((List (List Bool))) := if 0 ≤ (l0.length : Int) then (if ((l0.length : Int) : Int).toNat ≤ 11728124029610 then (dropperref04_lengths.l0 k l0 a1 a2 (List.replicate ((l0.length : Int) : Int).toNat []) (wrap64 ((l0.length : Int) - 1))) else (none)) else (none)
theorem dropperref04_lengths.mono_l : ∀ k, (∀ y0 y1 y2 y3 y4, LeO (dropperref04_lengths.l0 k y0 y1 y2 y3 y4) (dropperref04_lengths.l0 (k + 1) y0 y1 y2 y3 y4)) ∧ (∀ y0 y1 y2 y3 y4 y5, LeO (dropperref04_lengths.l1 k y0 y1 y2 y3 y4 y5) (dropperref04_lengths.l1 (k + 1) y0 y1 y2 y3 y4 y5)) ∧ (∀ y0 y1 y2 y3 y4 y5 y6, LeO (dropperref04_lengths.l2 k y0 y1 y2 y3 y4 y5 y6) (dropperref04_lengths.l2 (k + 1) y0 y1 y2 y3 y4 y5 y6))
  | 0 => ⟨fun _ _ _ _ _ r h => by simp [dropperref04_lengths.l0] at h, fun _ _ _ _ _ _ r h => by simp [dropperref04_lengths.l1] at h, fun _ _ _ _ _ _ _ r h => by simp [dropperref04_lengths.l2] at h⟩
  | k + 1 => by
    obtain ⟨ih0, ih1, ih2⟩ := dropperref04_lengths.mono_l k
    refine ⟨?_, ?_, ?_⟩
    · intro y0 y1 y2 y3 y4
      unfold dropperref04_lengths.l0
      repeat' first
      | (with_reducible exact ih0 _ _ _ _ _)
      | (with_reducible exact ih1 _ _ _ _ _ _)
      | (with_reducible exact ih2 _ _ _ _ _ _ _)
      | (with_reducible exact LeO.refl _)
      | (with_reducible exact LeO.none _)
      | (with_reducible refine LeO.ite ?_ ?_)
      | (with_reducible refine LeO.bind ?_ (fun _ => ?_))
      | exact ih0 _ _ _ _ _
      | exact ih1 _ _ _ _ _ _
      | exact ih2 _ _ _ _ _ _ _
      | exact LeO.none _
      | refine LeO.ite ?_ ?_
      | refine LeO.bind ?_ (fun _ => ?_)
    · intro y0 y1 y2 y3 y4 y5
      unfold dropperref04_lengths.l1
      repeat' first
      | (with_reducible exact ih0 _ _ _ _ _)
      | (with_reducible exact ih1 _ _ _ _ _ _)
      | (with_reducible exact ih2 _ _ _ _ _ _ _)
      | (with_reducible exact LeO.refl _)
      | (with_reducible exact LeO.none _)
      | (with_reducible refine LeO.ite ?_ ?_)
      | (with_reducible refine LeO.bind ?_ (fun _ => ?_))
      | exact ih0 _ _ _ _ _
      | exact ih1 _ _ _ _ _ _
      | exact ih2 _ _ _ _ _ _ _
      | exact LeO.none _
      | refine LeO.ite ?_ ?_
      | refine LeO.bind ?_ (fun _ => ?_)
    · intro y0 y1 y2 y3 y4 y5 y6
      unfold dropperref04_lengths.l2
      repeat' first
      | (with_reducible exact ih0 _ _ _ _ _)
      | (with_reducible exact ih1 _ _ _ _ _ _)
      | (with_reducible exact ih2 _ _ _ _ _ _ _)
      | (with_reducible exact LeO.refl _)
      | (with_reducible exact LeO.none _)
      | (with_reducible refine LeO.ite ?_ ?_)
      | (with_reducible refine LeO.bind ?_ (fun _ => ?_))
      | exact ih0 _ _ _ _ _
      | exact ih1 _ _ _ _ _ _
      | exact ih2 _ _ _ _ _ _ _
      | exact LeO.none _
      | refine LeO.ite ?_ ?_
      | refine LeO.bind ?_ (fun _ => ?_)
theorem dropperref04_lengths.mono : ∀ a0 a1 a2 k, LeO (dropperref04_lengths.f k a0 a1 a2) (dropperref04_lengths.f (k + 1) a0 a1 a2) := by
  intro a0 a1 a2 k
  obtain ⟨ih0, ih1, ih2⟩ := dropperref04_lengths.mono_l k
  unfold dropperref04_lengths.f
  repeat' first
      | (with_reducible exact ih0 _ _ _ _ _)
      | (with_reducible exact ih1 _ _ _ _ _ _)
      | (with_reducible exact ih2 _ _ _ _ _ _ _)
      | (with_reducible exact LeO.refl _)
      | (with_reducible exact LeO.none _)
      | (with_reducible refine LeO.ite ?_ ?_)
      | (with_reducible refine LeO.bind ?_ (fun _ => ?_))
      | exact ih0 _ _ _ _ _
      | exact ih1 _ _ _ _ _ _
      | exact ih2 _ _ _ _ _ _ _
      | exact LeO.none _
      | refine LeO.ite ?_ ?_
      | refine LeO.bind ?_ (fun _ => ?_)
def dropperref04_lengths.T13 : Bool × List (List Nat × List Nat) := (true, [([], []), ([], []), ([0, 1], [0, 1]), ([2], [2]), ([], []), ([4], [4]), ([], []), ([], []), ([6, 7], [6, 7]), ([8], [8]), ([], []), ([10], [10]), ([9, 11], [9, 11]), ([12], [12]), ([13], [13]), ([14], [14]), ([14], [14]), ([15, 16, 14], [14, 15, 16]), ([17, 14], [14, 17]), ([14], [14]), ([18, 19, 14], [14, 18, 19]), ([20, 14], [14, 20]), ([14, 21], [14, 21]), ([3, 5, 0, 1, 2, 3, 4, 5, 6, 7, 8, 9, 10, 11, 12, 13, 14, 15, 16, 17, 18, 19, 20, 21, 22], [3, 5]), ([23, 22, 14, 0, 1, 2, 3, 4, 5, 6, 7, 8, 9, 10, 11, 12, 13, 14, 15, 16, 17, 18, 19, 20, 21, 22], [22, 23])])
def dropperref04_lengths.B13 : List Nat := [0, 0, 3, 7, 0, 16, 0, 0, 192, 448, 0, 1024, 4032, 8128, 16320, 32704, 32704, 131008, 262080, 32704, 1048512, 2097088, 4194240, 8388607, 16777215]
theorem dropperref04_lengths.tab13 : rtab .any (opsOf Try.f81 13) = dropperref04_lengths.T13 := by kernel_rfl
theorem dropperref04_lengths.bits13 : waitsOk dropperref04_lengths.T13.2 dropperref04_lengths.B13 = true := by kernel_rfl
set_option maxHeartbeats 8000000 in
set_option maxRecDepth 100000 in
theorem dropperref04_lengths.calls (k : Nat) (A0 : Option Addr) (c0 : Nat) (l0 : List Int) (a1 : Int) (a2 : Int) (r : List (List Bool)) (w : World) (hr0 : Kd.C (Kd.int .i64) w A0 l0.length l0) (hc0 : l0.length ≤ c0) (h : dropperref04_lengths.f k l0 a1 a2 = some r) :
    Calls Try.prog 81 #[.slice A0 l0.length c0, .int .i64 a1, .int .i64 a2] w fun e w' => ∃ v0_ : Value, e = .returned (v0_) ∧ Kd.S (Kd.slice 4 Kd.bool) 88 w' w.heap.size (fun _ => True) v0_ r ∧ Below w.heap.size w w' := by
  have HR0 := Aside0.mk hr0
  have HC0 := Aside0.mk hc0
  clear hr0 hc0
  have HB := Aside0.mk (Below.refl w.heap.size w)
  have H : (if 0 ≤ (l0.length : Int) then (if ((l0.length : Int) : Int).toNat ≤ 11728124029610 then (dropperref04_lengths.l0 k l0 a1 a2 (List.replicate ((l0.length : Int) : Int).toNat []) (wrap64 ((l0.length : Int) - 1))) else (none)) else (none)) = some r := h
  clear h
  by_cases c4 : 0 ≤ (l0.length : Int)
  rotate_left
  · rw [if_neg c4] at H
    exact absurd H (by simp)

  rw [if_pos c4] at H
  have c4b0 := eq_true c4
  have c4b1 : decide (0 ≤ (l0.length : Int)) = true := decide_eq_true c4
  clear c4
  by_cases c5 : ((l0.length : Int) : Int).toNat ≤ 11728124029610
  rotate_left
  · rw [if_neg c5] at H
    exact absurd H (by simp)
  rw [if_pos c5] at H
  have c5b0 := eq_true c5
  have c5b1 : decide (((l0.length : Int) : Int).toNat ≤ 11728124029610) = true := decide_eq_true c5
  clear c5
  obtain ⟨y101, hy101⟩ : ∃ y_ : List (List Bool), y_ = (List.replicate ((l0.length : Int) : Int).toNat []) := ⟨_, rfl⟩
  replace H : (dropperref04_lengths.l0 k l0 a1 a2 y101 (wrap64 ((l0.length : Int) - 1))) = some r := by first | (rw [hy101]; with_reducible exact H) | (have H2_ := (Option.bind_some _ _).symm.trans H; rw [hy101]; with_reducible exact H2_) | (have H2_ := (Option.bind_some _ _).symm.trans H; with_reducible exact H2_) | with_reducible exact H | (rw [hy101]; exact H) | exact H
  have Ny101 := Aside0.mk hy101
  clear hy101
  have H' := Aside0.mk H
  clear H
  go_enter Try.func81, Try.ntmps81
  go_wp2_with (first | ((with_reducible refine gate_dst (N := 13) rfl ?_); refine Kd.S_make (Kd.slice 4 Kd.bool) _ 88 rfl (N := 13) rfl 89 _ _ rfl (l0.length : Int) rfl rfl Try.underlying89 (.slice none 0 0) 24 info88 rfl (by decide) (by omega) [] (ok := fun _ => True) (okp := fun _ => True) ⟨_, rfl, Kd.R_nil _ _ _ _ _⟩ (fun _ hk => hk) trivial (of_decide_eq_true (by first | (with_reducible assumption) | assumption)) (Nat.le_trans (Nat.mul_le_mul_right _ (of_decide_eq_true (by first | (with_reducible assumption) | assumption) : (l0.length : Int).toNat ≤ 11728124029610)) (by omega)) (Below.refl _ _) (Nat.le_refl _) ?_; intro v102 w6 ho7 hb hg_ hnew_; clear hg_ hnew_; (first | rw [← Ny101.out] at ho7 | (simp only [Int.reduceToNat] at ho7; rw [← Ny101.out] at ho7)); have n0_ := Aside0.mk (Kd.S_lower ho7 (below_size (by repeat (first | (with_reducible first | exact HB.out | apply below_alloc | apply pw_below_drewN | apply below_drew1) | exact HB.out)))); have n1_ := Aside0.mk (below_step (by repeat (first | (with_reducible first | exact HB.out | apply below_alloc | apply pw_below_drewN | apply below_drew1) | exact HB.out)) hb); clear HB; have HO103 := n0_; have HB := n1_; clear n0_ n1_; clear hb ho7))
  go_loopg [8] k (fun kq v8 w' => ∃ (x7_1 : List (List Bool)) (x8_1 : Int), v8 = .int .i64 x8_1 ∧ Aside0 (dropperref04_lengths.l0 kq l0 a1 a2 x7_1 x8_1 = some r) ∧ Aside0 (kq ≤ k) ∧ Aside0 (Kd.S (Kd.slice 4 Kd.bool) 88 w' w.heap.size (fun _ => True) v102 x7_1) ∧ Aside0 (Below w.heap.size w w'))
  case atStart => exact ⟨(y101), (wrap64 ((l0.length : Int) - 1)), (by first | rfl | (simp; done) | (simp [*]; done)), H', ⟨Nat.le_refl _⟩, ⟨by (with_reducible repeat (first | apply Kd.S_alloc | apply Kd.S_drewN | apply Kd.S_drew)); exact HO103.out⟩, ⟨by repeat (first | (with_reducible first | exact HB.out | apply below_alloc | apply pw_below_drewN | apply below_drew1) | exact HB.out)⟩⟩
  case round =>
    clear H'
    try clear p2
    try clear c4
    try clear c4b0
    try clear c4b1
    try clear c5
    try clear c5b0
    try clear c5b1
    try clear p6
    obtain ⟨x7_1, x8_1, rfl, HA, HK1, HO_7, HB⟩ := hrel
    cases gk with
    | zero => exact absurd HA.out (by simp [dropperref04_lengths.l0])
    | succ k1 =>
      have H := HA.out
      clear HA
      simp only [dropperref04_lengths.l0] at H
      by_cases c8 : x8_1 ≥ 0
      rotate_left
      · rw [if_neg c8] at H
        have c8b0 : decide (0 ≤ x8_1) = false := decide_eq_false c8
        clear c8
        obtain rfl := Option.some.inj H
        go_wp2
        go_ret
        exact ⟨_, by first | rfl | (simp [errW_none, errW_some] <;> rfl) | (simp [*, errW_none, errW_some] <;> rfl), by (with_reducible repeat (first | apply Kd.S_alloc | apply Kd.S_drewN | apply Kd.S_drew)); exact HO_7.out, by repeat (first | (with_reducible first | exact HB.out | apply below_alloc | apply pw_below_drewN | apply below_drew1) | exact HB.out)⟩
      rw [if_pos c8] at H
      have c8b0 : decide (0 ≤ x8_1) = true := decide_eq_true c8
      clear c8
      obtain ⟨ji9, hji9⟩ : ∃ j_ : Int, (wrap64 ((l0.length : Int) + 1)) = j_ := ⟨_, rfl⟩
      replace H : (if 0 ≤ (ji9) then (if (ji9 : Int).toNat ≤ 281474976710656 then (if 0 ≤ x8_1 then (if x8_1 < (x7_1.length : Int) then ((some (x7_1.set (x8_1 : Int).toNat (List.replicate (ji9 : Int).toNat false) : List (List Bool))).bind fun y107 => (if 0 < ((rd_L3 y107 x8_1).length : Int) then (dropperref04_lengths.l1 k1 l0 a1 a2 (y107.set (x8_1 : Int).toNat ((rd_L3 y107 x8_1).set (0 : Int).toNat (x8_1 == (wrap64 ((l0.length : Int) - 1))))) x8_1 (wrap64 (x8_1 + 1))) else (none))) else (none)) else (none)) else (none)) else (none)) = some r := by first | (rw [hji9] at H; exact H) | (simp only [hji9] at H ⊢; exact H)
      have hji9w : (IntKind.i64.wrap ((l0.length : Int) + 1)) = ji9 := (i64_w _).trans hji9
      by_cases c10 : 0 ≤ (ji9)
      rotate_left
      · rw [if_neg c10] at H
        exact absurd H (by simp)
      rw [if_pos c10] at H
      have c10b0 := eq_true c10
      have c10b1 : decide (0 ≤ (ji9)) = true := decide_eq_true c10
      clear c10
      by_cases c11 : (ji9 : Int).toNat ≤ 281474976710656
      rotate_left
      · rw [if_neg c11] at H
        exact absurd H (by simp)
      rw [if_pos c11] at H
      have c11b0 := eq_true c11
      have c11b1 : decide ((ji9 : Int).toNat ≤ 281474976710656) = true := decide_eq_true c11
      clear c11
      obtain ⟨y104, hy104⟩ : ∃ y_ : List Bool, y_ = (List.replicate (ji9 : Int).toNat false) := ⟨_, rfl⟩
      replace H : (if 0 ≤ x8_1 then (if x8_1 < (x7_1.length : Int) then ((some (x7_1.set (x8_1 : Int).toNat y104 : List (List Bool))).bind fun y107 => (if 0 < ((rd_L3 y107 x8_1).length : Int) then (dropperref04_lengths.l1 k1 l0 a1 a2 (y107.set (x8_1 : Int).toNat ((rd_L3 y107 x8_1).set (0 : Int).toNat (x8_1 == (wrap64 ((l0.length : Int) - 1))))) x8_1 (wrap64 (x8_1 + 1))) else (none))) else (none)) else (none)) = some r := by first | (rw [hy104]; with_reducible exact H) | (have H2_ := (Option.bind_some _ _).symm.trans H; rw [hy104]; with_reducible exact H2_) | (have H2_ := (Option.bind_some _ _).symm.trans H; with_reducible exact H2_) | with_reducible exact H | (rw [hy104]; exact H) | exact H
      have Ny104 := Aside0.mk hy104
      clear hy104
      by_cases c12 : 0 ≤ x8_1
      rotate_left
      · rw [if_neg c12] at H
        exact absurd H (by simp)
      rw [if_pos c12] at H
      have c12b0 : decide (0 ≤ x8_1) = true := decide_eq_true c12
      clear c12
      by_cases c13 : x8_1 < (x7_1.length : Int)
      rotate_left
      · rw [if_neg c13] at H
        exact absurd H (by simp)
      rw [if_pos c13] at H
      have c13b0 : decide (x8_1 < (x7_1.length : Int)) = true := decide_eq_true c13
      clear c13
      obtain ⟨y107, hy107⟩ : ∃ y_ : List (List Bool), y_ = (x7_1.set (x8_1 : Int).toNat y104) := ⟨_, rfl⟩
      replace H : (if 0 < ((rd_L3 y107 x8_1).length : Int) then (dropperref04_lengths.l1 k1 l0 a1 a2 (y107.set (x8_1 : Int).toNat ((rd_L3 y107 x8_1).set (0 : Int).toNat (x8_1 == (wrap64 ((l0.length : Int) - 1))))) x8_1 (wrap64 (x8_1 + 1))) else (none)) = some r := by first | (rw [hy107]; with_reducible exact H) | (have H2_ := (Option.bind_some _ _).symm.trans H; rw [hy107]; with_reducible exact H2_) | (have H2_ := (Option.bind_some _ _).symm.trans H; with_reducible exact H2_) | with_reducible exact H | (rw [hy107]; exact H) | exact H
      have Ny107 := Aside0.mk hy107
      clear hy107
      by_cases c15 : 0 < ((rd_L3 y107 x8_1).length : Int)
      rotate_left
      · rw [if_neg c15] at H
        exact absurd H (by simp)
      rw [if_pos c15] at H
      have c15b0 : decide (0 < ((rd_L3 y107 x8_1).length : Int)) = true := decide_eq_true c15
      have c15b1 : decide (0 < (rd_L3 y107 x8_1).length) = true := decide_eq_true (by omega)
      clear c15
      obtain ⟨y109, hy109⟩ : ∃ y_ : List Bool, y_ = ((rd_L3 y107 x8_1).set (0 : Int).toNat (x8_1 == (wrap64 ((l0.length : Int) - 1)))) := ⟨_, rfl⟩
      replace H : (dropperref04_lengths.l1 k1 l0 a1 a2 (y107.set (x8_1 : Int).toNat y109) x8_1 (wrap64 (x8_1 + 1))) = some r := by first | (rw [hy109]; with_reducible exact H) | (have H2_ := (Option.bind_some _ _).symm.trans H; rw [hy109]; with_reducible exact H2_) | (have H2_ := (Option.bind_some _ _).symm.trans H; with_reducible exact H2_) | with_reducible exact H | (rw [hy109]; exact H) | exact H
      have Ny109 := Aside0.mk hy109
      clear hy109
      obtain ⟨y111, hy111⟩ : ∃ y_ : List (List Bool), y_ = (y107.set (x8_1 : Int).toNat y109) := ⟨_, rfl⟩
      replace H : (dropperref04_lengths.l1 k1 l0 a1 a2 y111 x8_1 (wrap64 (x8_1 + 1))) = some r := by first | (rw [hy111]; with_reducible exact H) | (have H2_ := (Option.bind_some _ _).symm.trans H; rw [hy111]; with_reducible exact H2_) | (have H2_ := (Option.bind_some _ _).symm.trans H; with_reducible exact H2_) | with_reducible exact H | (rw [hy111]; exact H) | exact H
      have Ny111 := Aside0.mk hy111
      clear hy111
      have H' := Aside0.mk H
      clear H
      go_wp2_with (first | ((with_reducible refine gate_dst (N := 26) rfl ?_); refine Kd.R_make Kd.bool _ 4 rfl (N := 26) rfl 88 _ _ rfl ji9 rfl rfl Try.underlying88 (.bool false) 1 info4 rfl (by decide) (by omega) false (ok := fun _ => True) (okp := fun _ => True) rfl (fun _ hk => hk) trivial (of_decide_eq_true (by first | (with_reducible assumption) | assumption)) (Nat.le_trans (Nat.mul_le_mul_right _ (of_decide_eq_true (by first | (with_reducible assumption) | assumption) : ji9.toNat ≤ 281474976710656)) (by omega)) (Below.refl _ _) (Nat.le_refl _) ?_; intro VV w17 ho18 hb hg_ hnew_; clear hg_ hnew_; (first | rw [← Ny104.out] at ho18 | (simp only [Int.reduceToNat] at ho18; rw [← Ny104.out] at ho18)); obtain ⟨A105, C105, e105_⟩ := Kd.R_slice ho18; subst e105_; have n0_ := Aside0.mk (Kd.S_elder' (by (with_reducible repeat (first | apply Kd.S_alloc | apply Kd.S_drewN | apply Kd.S_drew)); exact HO_7.out) (Kd.R_base ho18) hb); have n1_ := Aside0.mk (Kd.R_lower ho18 (below_size (by repeat (first | (with_reducible first | exact HB.out | apply below_alloc | apply pw_below_drewN | apply below_drew1) | exact HB.out)))); have n2_ := Aside0.mk (below_step (by repeat (first | (with_reducible first | exact HB.out | apply below_alloc | apply pw_below_drewN | apply below_drew1) | exact HB.out)) hb); clear HO_7; clear HB; have HO_7 := n0_; have HO106 := n1_; have HB := n2_; clear n0_ n1_ n2_; clear hb ho18; have p14 : 0 ≤ (x8_1 : Int) := of_decide_eq_true (by first | (with_reducible assumption) | assumption); have q14 : (x8_1 : Int) < ((x7_1.length : Int) : Int) := of_decide_eq_true (by first | (with_reducible assumption) | assumption); obtain ⟨go14, co14, eo14, gb14, gl14, cl14, HG14⟩ := Kd.S_form HO_7.out (by omega); (first | cases eo14 | (injection eo14 with ea_ en_ ec_; (first | subst ea_ | (injection ea_ with ea_; subst ea_)); subst ec_; clear en_)); have GB14 := Aside0.mk gb14; have GG14 := Aside0.mk HG14; clear gb14 gl14 HG14; obtain ⟨_, ce14, hcl14, hM14, hcc14, hfr14, _, _⟩ := Kd.S_elem HO_7.out [] (x8_1 : Int) p14 q14; obtain ⟨ve14_0, rfl, ge14_0⟩ := hM14; have hx14_0 := hcc14 0 _ rfl; have hf14_0 := hfr14 0; (try simp only [show ((Kd.slice 4 Kd.bool)).sz = 1 from rfl, Nat.mul_one, Nat.add_zero] at hx14_0); (try simp only [show ((Kd.slice 4 Kd.bool)).sz = 1 from rfl, Nat.mul_one, Nat.add_zero] at hf14_0); clear hcl14 hcc14 hfr14; (try clear hM14); replace p14 := eq_true p14; replace q14 := eq_true q14; have n_ := Aside0.mk (Kd.S_mono (ok' := (fun k_ => some k_ ≠ ((Value.slice A105 y104.length C105) : Value).ownBlock)) HO_7.out (fun k_ hk => hk.2)); clear HO_7; have HO_7 := n_; clear n_; have HX19 := Aside0.mk (show Kd.S (Kd.slice 4 Kd.bool) 88 w17 w.heap.size (fun k_ => ((fun _ => True)) k_ ∧ ¬ ((fun k_ => some k_ = ((Value.slice A105 y104.length C105) : Value).ownBlock)) k_) (.slice (some ⟨go14, 0, none⟩) x7_1.length co14) x7_1 from (by (with_reducible repeat (first | apply Kd.S_alloc | apply Kd.S_drewN | apply Kd.S_drew)); exact Kd.S_mono HO_7.out (fun k_ hk => ⟨trivial, fun e_ => hk e_⟩))); obtain ⟨oki19, ce19, hcl19, hM19, hcc19, hfr19, hoki19, hH19⟩ := Kd.S_elem HX19.out [] (x8_1 : Int) (of_decide_eq_true (by first | (with_reducible assumption) | assumption)) (by have h_ : (x8_1 : Int) < ((x7_1.length : Int) : Int) := of_decide_eq_true (by first | (with_reducible assumption) | assumption); first | exact h_ | (have e_ := (Kd.S_reads' HO_7.out).1; omega) | simpa using h_); obtain ⟨ve19_0, rfl, ge19_0⟩ := hM19; have HP19 := Kd.S_seg hH19 (of_decide_eq_true (by first | (with_reducible assumption) | assumption)) (by have h_ : (x8_1 : Int) < ((x7_1.length : Int) : Int) := of_decide_eq_true (by first | (with_reducible assumption) | assumption); first | exact h_ | (have e_ := (Kd.S_reads' HO_7.out).1; omega) | simpa using h_) (seg := [(Value.slice A105 y104.length C105)]) (j := 0) (show 1 ≤ 1 from by decide) (x' := y104) (Kd.M_row (Kd.R_mono (Kd.R_tight rfl (Kd.R_mono (ok' := fun k_ => ((fun _ => True)) k_ ∧ k_ ≠ go14) (Kd.R_apart' (HO106.out) (Kd.S_typed HO_7.out) (by decide)) (fun k_ hk => ⟨trivial, fun e_ => (hk.2) (by rw [e_]; rfl)⟩))) (fun _ h_ => Or.inr (h_)))) (fun _ hk => hk) (fun k_ hk_ => ((Kd.R_mono (ok' := fun k_ => ((fun _ => True)) k_ ∧ k_ ≠ go14) (Kd.R_apart' (HO106.out) (Kd.S_typed HO_7.out) (by decide)) (fun k_ hk => ⟨trivial, fun e_ => (hk.2) (by rw [e_]; rfl)⟩))).1 k_ hk_.symm); have hx19_0 := hcc19 0 _ rfl; (try simp only [show ((Kd.slice 4 Kd.bool)).sz = 1 from rfl, Nat.mul_one, Nat.add_zero] at hx19_0); have hf19_0 := hfr19 0; (try simp only [show ((Kd.slice 4 Kd.bool)).sz = 1 from rfl, Nat.mul_one, Nat.add_zero] at hf19_0); clear hcl19 hcc19 hfr19 hoki19 hH19; (try clear hM19); (try simp only [show ((Kd.slice 4 Kd.bool)).sz = 1 from rfl, Nat.mul_one, Nat.add_zero] at HP19)) | ((with_reducible refine gate_store (t := 88) (p := 27) rfl ?_); refine store_event (t := 88) (p := 27) (v := ?vo_w20) (w1 := (w17.setCell ⟨go14, (x8_1 : Int).toNat, none⟩ ((Value.slice A105 y104.length C105)))) ?hg ?ho ?hn ?hr ?_; (case ho => rfl); (case hg => rfl); (case hn => rfl); (case hr => first | (go_simp; done) | (go_simp; rfl)); intro w20 hw; have hg : w17.grownBy w20 (some go14) := (by rw [hw]; exact HP19.2); have hp_ : Kd.S (Kd.slice 4 Kd.bool) 88 w20 w.heap.size (fun _ => True) (.slice (some ⟨go14, 0, none⟩) x7_1.length co14) y107 := (by rw [hw, Ny107.out]; exact HP19.1); clear HP19; have n0_ := Aside0.mk (hp_); have n1_ := Aside0.mk ((by rw [hw]; exact below_set (HB.out) GB14.out : Below w.heap.size w w20)); clear HO_7; clear HB; clear HO106; have HO_7 := n0_; have HB := n1_; clear n0_ n1_; clear hg hw hp_; have p108 : 0 ≤ (x8_1 : Int) := of_decide_eq_true (by first | (with_reducible assumption) | assumption); have q108 : x8_1 < (y107.length : Int) := (by have h_ : (x8_1 : Int) < ((x7_1.length : Int) : Int) := of_decide_eq_true (by first | (with_reducible assumption) | assumption); first | (have e_ := (Kd.S_reads' HO_7.out).1; omega) | simpa only [Ny107.out, List.length_set] using h_); have ql108 : ((x8_1 : Int) < ((x7_1.length : Int) : Int)) = True := eq_true (of_decide_eq_true (by first | (with_reducible assumption) | assumption)); obtain ⟨ad108, A108_0, c108_0, e108, hx108_0, hl108_0, hi108_0⟩ := at_L3 (Kd.S_reads' HO_7.out).2.2 x8_1 p108 q108; obtain rfl : (⟨go14, 0, none⟩ : Addr) = ad108 := (by injection e108); obtain ⟨ce108, hce108, hMe108, hcc108⟩ := Kd.S_get HO_7.out [] x8_1 p108 (by first | exact q108 | exact of_decide_eq_true (by first | (with_reducible assumption) | assumption) | (have e_ := (Kd.S_reads' HO_7.out).1; omega)); obtain ⟨ve108_0, rfl, ge108_0⟩ := hMe108; have hv108_0 := hcc108 0 _ rfl; rw [Nat.add_zero, show ((Kd.slice 4 Kd.bool)).sz = 1 from rfl, Nat.mul_one] at hv108_0; replace hv108_0 := Option.some.inj (hv108_0.symm.trans hx108_0); rw [hv108_0] at ge108_0; have HL108_0 := Aside0.mk (show Kd.R Kd.bool 4 _ _ _ _ (rd_L3 y107 x8_1) from ge108_0); clear hv108_0 ge108_0; have HX108_0 := Aside0.mk hx108_0; clear hcc108 hce108; (first | simp only [add_plain] at hx108_0 | simp only [add_at] at hx108_0 | simp only [Addr.add, Nat.zero_add] at hx108_0 | skip); have HR108_0 := Aside0.mk hi108_0; have HC108_0 := Aside0.mk hl108_0; clear hi108_0 hl108_0; replace p108 := eq_true p108; replace q108 := eq_true q108; have p16 : 0 ≤ (0 : Int) := (by omega); have q16 : (0 : Int) < (((rd_L3 y107 x8_1).length : Int) : Int) := of_decide_eq_true (by first | (with_reducible assumption) | assumption); have qi16 : (0 < (rd_L3 y107 x8_1).length) = True := eq_true (by omega); obtain ⟨go16, co16, eo16, gb16, gl16, cl16, HG16⟩ := Kd.R_form HL108_0.out (by omega); (first | cases eo16 | (injection eo16 with ea_ en_ ec_; (first | subst ea_ | (injection ea_ with ea_; subst ea_)); subst ec_; clear en_)); have GB16 := Aside0.mk gb16; have GG16 := Aside0.mk HG16; clear gb16 gl16 HG16; obtain ⟨hx16_0, hf16_0⟩ := Kd.R_celln false HL108_0.out (0 : Int) p16 q16; (try rw [show ((0 : Int)).toNat = 0 from rfl] at hx16_0); (try simp only [Nat.reduceMul, Nat.zero_mul, Nat.zero_add, Nat.reduceAdd] at hx16_0); (try rw [show ((0 : Int)).toNat = 0 from rfl] at hf16_0); (try simp only [Nat.reduceMul, Nat.zero_mul, Nat.zero_add, Nat.reduceAdd] at hf16_0); replace p16 := eq_true p16; replace q16 := eq_true q16; have hq21 : (x8_1 : Int) < (x7_1.length : Int) := (by have h_ : (x8_1 : Int) < ((x7_1.length : Int) : Int) := of_decide_eq_true (by first | (with_reducible assumption) | assumption); first | exact h_ | (have e_ := (Kd.S_reads' HO_7.out).1; omega) | simpa only [Ny107.out, List.length_set] using h_); obtain ⟨oki21, ce21, hcl21, hM21, hcc21, hok21, hbk21⟩ := Kd.S_borrow HO_7.out [] (x8_1 : Int) (of_decide_eq_true (by first | (with_reducible assumption) | assumption)) hq21; obtain ⟨ve21_0, rfl, ge21_0⟩ := hM21; have hv21 := hcc21 0 _ rfl; rw [Nat.add_zero, show ((Kd.slice 4 Kd.bool)).sz = 1 from rfl, Nat.mul_one] at hv21; replace hv21 := Option.some.inj (hv21.symm.trans HX108_0.out); subst hv21; clear hcc21 hcl21; replace ge21_0 := (show Kd.R Kd.bool 4 _ _ _ _ (rd_L3 y107 x8_1) from ge21_0); have HP21 := Kd.R_putg ge21_0 (0 : Int) (x8_1 == (wrap64 ((l0.length : Int) - 1)))) | ((with_reducible refine gate_store (t := 4) (p := 37) rfl ?_); refine store_event (t := 4) (p := 37) (v := ?vo_w22) (w1 := (w20.setCell ⟨go16, 0, none⟩ (.bool (x8_1 == (wrap64 ((l0.length : Int) - 1)))))) ?hg ?ho ?hn ?hr ?_; (case ho => rfl); (case hg => rfl); (case hn => rfl); (case hr => first | (go_simp; done) | (go_simp; rfl)); intro w22 hw; have hg : w20.grownBy w22 (some go16) := (by rw [hw]; exact HP21.2); have hz_ : Kd.R Kd.bool 4 w22 w.heap.size oki21 (.slice (some ⟨go16, 0, none⟩) (rd_L3 y107 x8_1).length c108_0) y109 := (by rw [hw, Ny109.out]; exact HP21.1); have hp_ : Kd.S (Kd.slice 4 Kd.bool) 88 w22 w.heap.size (fun _ => True) (.slice (some ⟨go14, 0, none⟩) x7_1.length co14) y111 := (by rw [Ny111.out]; exact hbk21 hg (fun k_ e_ => by injection e_ with e_; subst e_; exact ge21_0.1 _ rfl) (Kd.M_row hz_)); have hm_ := Kd.R_mono hz_ hok21; clear HP21 hbk21; have n0_ := Aside0.mk (hp_); have n1_ := Aside0.mk ((by rw [hw]; exact below_set (HB.out) GB16.out : Below w.heap.size w w22)); have n2_ := Aside0.mk (hm_); have n3_ := Aside0.mk ((Kd.R_reads' hm_).2.1); clear HO_7; clear HB; clear HL108_0; have HO_7 := n0_; have HB := n1_; have HL124 := n2_; have HC110 := n3_; clear n0_ n1_ n2_ n3_; clear hg hw hp_ hz_ hm_ hok21))
      go_loopg [9] k1 (fun kq v9 w' => ∃ (x7_2 : List (List Bool)) (x9_2 : Int), v9 = .int .i64 x9_2 ∧ Aside0 (dropperref04_lengths.l1 kq l0 a1 a2 x7_2 x8_1 x9_2 = some r) ∧ Aside0 (kq ≤ k1) ∧ Aside0 (Kd.S (Kd.slice 4 Kd.bool) 88 w' w.heap.size (fun _ => True) (.slice (some ⟨go14, 0, none⟩) x7_1.length co14) x7_2) ∧ Aside0 (Below w.heap.size w w'))
      case atStart => exact ⟨(y111), (wrap64 (x8_1 + 1)), (by first | rfl | (simp; done) | (simp [*]; done)), H', ⟨Nat.le_refl _⟩, ⟨by (with_reducible repeat (first | apply Kd.S_alloc | apply Kd.S_drewN | apply Kd.S_drew)); exact HO_7.out⟩, ⟨by repeat (first | (with_reducible first | exact HB.out | apply below_alloc | apply pw_below_drewN | apply below_drew1) | exact HB.out)⟩⟩
      case round =>
        clear H'
        try clear c1
        try clear p1
        try clear q1
        try clear hx1
        try clear qi1
        try clear c2
        try clear p2
        try clear q2
        try clear c4
        try clear c4b0
        try clear c4b1
        try clear c5
        try clear c5b0
        try clear c5b1
        try clear p6
        try clear c8
        try clear c8b0
        try clear c10
        try clear c10b0
        try clear c10b1
        try clear p10
        try clear q10
        try clear hx10
        try clear c11
        try clear c11b0
        try clear c11b1
        try clear c12
        try clear c12b0
        try clear c13
        try clear c13b0
        try clear c14
        try clear p14
        try clear q14
        try clear hx14
        try clear hf14
        try clear c15
        try clear c15b0
        try clear c15b1
        try clear p16
        try clear q16
        try clear hx16
        try clear qi16
        try clear hf16
        try clear c19
        try clear hx19
        try clear hf19
        try clear c21
        try clear q21
        try clear hx108_0
        try clear hx14_0
        try clear hx16_0
        try clear hx19_0
        try clear p108
        try clear p14
        try clear p16
        try clear p2
        try clear p6
        try clear q108
        try clear q14
        try clear q16
        obtain ⟨x7_2, x9_2, rfl, HA, HK2, HO_7, HB⟩ := hrel
        have hl7_2 := (Kd.S_reads' HO_7.out).1
        rw [hl7_2] at HO_7
        (try simp only [hl7_2])
        cases gk with
        | zero => exact absurd HA.out (by simp [dropperref04_lengths.l1])
        | succ k2 =>
          have H := HA.out
          clear HA
          simp only [dropperref04_lengths.l1] at H
          by_cases c23 : x9_2 < (l0.length : Int)
          rotate_left
          · rw [if_neg c23] at H
            have c23b0 : decide (x9_2 < (l0.length : Int)) = false := decide_eq_false c23
            (try (have c23b0h := c23b0; simp only [hl7_2] at c23b0h))
            clear c23
            have H' := Aside0.mk H
            clear H
            go_wp2
            (try simp only [← hl7_2])
            go_roundg k2
            case measure => have := HK1.out; have := HK2.out; omega
            case rel => exact ⟨(x7_2), (wrap64 (x8_1 - 1)), (by first | rfl | (simp; done) | (simp [*]; done)), H', ⟨by have := HK1.out; have := HK2.out; omega⟩, ⟨by (try simp only [hl7_2]); (with_reducible repeat (first | apply Kd.S_alloc | apply Kd.S_drewN | apply Kd.S_drew)); exact HO_7.out⟩, ⟨by repeat (first | (with_reducible first | exact HB.out | apply below_alloc | apply pw_below_drewN | apply below_drew1) | exact HB.out)⟩⟩
          rw [if_pos c23] at H
          have c23b0 : decide (x9_2 < (l0.length : Int)) = true := decide_eq_true c23
          (try (have c23b0h := c23b0; simp only [hl7_2] at c23b0h))
          clear c23
          have H' := Aside0.mk H
          clear H
          go_wp2
          go_loopg [10] k2 (fun kq v10 w' => ∃ (x7_3 : List (List Bool)) (x10_3 : Int), v10 = .int .i64 x10_3 ∧ Aside0 (dropperref04_lengths.l2 kq l0 a1 a2 x7_3 x8_1 x9_2 x10_3 = some r) ∧ Aside0 (kq ≤ k2) ∧ Aside0 (Kd.S (Kd.slice 4 Kd.bool) 88 w' w.heap.size (fun _ => True) (.slice (some ⟨go14, 0, none⟩) x7_2.length co14) x7_3) ∧ Aside0 (Below w.heap.size w w'))
          case atStart => exact ⟨(x7_2), (0), (by first | rfl | (simp; done) | (simp [*]; done)), H', ⟨Nat.le_refl _⟩, ⟨by (try simp only [hl7_2]); (with_reducible repeat (first | apply Kd.S_alloc | apply Kd.S_drewN | apply Kd.S_drew)); exact HO_7.out⟩, ⟨by repeat (first | (with_reducible first | exact HB.out | apply below_alloc | apply pw_below_drewN | apply below_drew1) | exact HB.out)⟩⟩
          case round =>
            clear H'
            try clear c1
            try clear p1
            try clear q1
            try clear hx1
            try clear qi1
            try clear c2
            try clear p2
            try clear q2
            try clear c4
            try clear c4b0
            try clear c4b1
            try clear c5
            try clear c5b0
            try clear c5b1
            try clear p6
            try clear c8
            try clear c8b0
            try clear c10
            try clear c10b0
            try clear c10b1
            try clear p10
            try clear q10
            try clear hx10
            try clear c11
            try clear c11b0
            try clear c11b1
            try clear c12
            try clear c12b0
            try clear c13
            try clear c13b0
            try clear c14
            try clear p14
            try clear q14
            try clear hx14
            try clear hf14
            try clear c15
            try clear c15b0
            try clear c15b1
            try clear p16
            try clear q16
            try clear hx16
            try clear qi16
            try clear hf16
            try clear c19
            try clear hx19
            try clear hf19
            try clear c21
            try clear q21
            try clear c23
            try clear c23b0
            try clear hx108_0
            try clear hx14_0
            try clear hx16_0
            try clear hx19_0
            try clear p1
            try clear p10
            try clear p108
            try clear p14
            try clear p16
            try clear p2
            try clear p6
            try clear q1
            try clear q10
            try clear q108
            try clear q14
            try clear q16
            try clear q2
            try clear q21
            obtain ⟨x7_3, x10_3, rfl, HA, HK3, HO_7, HB⟩ := hrel
            have hl7_3 := (Kd.S_reads' HO_7.out).1
            rw [hl7_3] at HO_7
            (try simp only [hl7_3])
            cases gk with
            | zero => exact absurd HA.out (by simp [dropperref04_lengths.l2])
            | succ k3 =>
              have H := HA.out
              clear HA
              simp only [dropperref04_lengths.l2] at H
              by_cases c24 : x10_3 < (l0.length : Int)
              rotate_left
              · rw [if_neg c24] at H
                have c24b0 : decide (x10_3 < (l0.length : Int)) = false := decide_eq_false c24
                (try (have c24b0h := c24b0; simp only [hl7_2, hl7_3] at c24b0h))
                clear c24
                have H' := Aside0.mk H
                clear H
                go_wp2
                (try simp only [← hl7_2, ← hl7_3])
                go_roundg k3
                case measure => have := HK1.out; have := HK2.out; have := HK3.out; omega
                case rel => exact ⟨(x7_3), (wrap64 (x9_2 + 1)), (by first | rfl | (simp; done) | (simp [*]; done)), H', ⟨by have := HK1.out; have := HK2.out; have := HK3.out; omega⟩, ⟨by (try simp only [hl7_2]); (try simp only [hl7_3]); (with_reducible repeat (first | apply Kd.S_alloc | apply Kd.S_drewN | apply Kd.S_drew)); exact HO_7.out⟩, ⟨by repeat (first | (with_reducible first | exact HB.out | apply below_alloc | apply pw_below_drewN | apply below_drew1) | exact HB.out)⟩⟩
              rw [if_pos c24] at H
              have c24b0 : decide (x10_3 < (l0.length : Int)) = true := decide_eq_true c24
              (try (have c24b0h := c24b0; simp only [hl7_2, hl7_3] at c24b0h))
              clear c24
              replace H := Option.bind_eq_some_iff.mp H
              obtain ⟨t112, A250, H⟩ := H
              replace H : (if t112 = true then (if 0 ≤ x8_1 then (if x8_1 < (x7_3.length : Int) then (if 0 ≤ (wrap64 (x10_3 + 1)) then (if (wrap64 (x10_3 + 1)) < ((rd_L3 x7_3 x8_1).length : Int) then (if rdOf false (rd_L3 x7_3 x8_1) (wrap64 (x10_3 + 1)) = true then (dropperref04_lengths.l2 k3 l0 a1 a2 (x7_3.set (x8_1 : Int).toNat ((rd_L3 x7_3 x8_1).set ((wrap64 (x10_3 + 1)) : Int).toNat true)) x8_1 x9_2 (wrap64 (x10_3 + 1))) else (if 0 ≤ x9_2 then (if x9_2 < (x7_3.length : Int) then (if 0 ≤ x10_3 then (if x10_3 < ((rd_L3 x7_3 x9_2).length : Int) then (dropperref04_lengths.l2 k3 l0 a1 a2 (x7_3.set (x8_1 : Int).toNat ((rd_L3 x7_3 x8_1).set ((wrap64 (x10_3 + 1)) : Int).toNat (rdOf false (rd_L3 x7_3 x9_2) x10_3))) x8_1 x9_2 (wrap64 (x10_3 + 1))) else (none)) else (none)) else (none)) else (none))) else (none)) else (none)) else (none)) else (none)) else (dropperref04_lengths.l1 k3 l0 a1 a2 x7_3 x8_1 (wrap64 (x9_2 + 1)))) = some r := H
              have A25 := Aside0.mk A250
              clear A250
              by_cases c26 : t112 = true
              rotate_left
              · replace c26 := Bool.eq_false_iff.mpr c26
                subst c26
                have H1 : (dropperref04_lengths.l1 k3 l0 a1 a2 x7_3 x8_1 (wrap64 (x9_2 + 1))) = some r := by rw [if_neg (show ¬ (false = true) by decide)] at H; exact H
                clear H
                have H := H1
                clear H1
                have H' := Aside0.mk H
                clear H
                go_wp2_with (first | (go_at_call 62; (with_reducible refine (dropperref04_may.calls _ _ l0 a1 a2 x8_1 x9_2 false _ ?side1 ?side2 A25.out).mono ?_); (case side1 => repeat (first | exact (Kd.C_below HR0.out HB.out) | (with_reducible refine Kd.C_alloc ?_ _) | (with_reducible refine Kd.C_drewN ?_ _) | (with_reducible refine Kd.C_drew ?_))); (case side2 => exact HC0.out); rintro e w' ⟨rfl, ⟨nd, rfl⟩⟩))
                (try simp only [← hl7_2, ← hl7_3])
                go_roundg k3
                case measure => have := HK1.out; have := HK2.out; have := HK3.out; omega
                case rel => exact ⟨(x7_3), (wrap64 (x9_2 + 1)), (by first | rfl | (simp; done) | (simp [*]; done)), H', ⟨by have := HK1.out; have := HK2.out; have := HK3.out; omega⟩, ⟨by (try simp only [hl7_2]); (try simp only [hl7_3]); (with_reducible repeat (first | apply Kd.S_alloc | apply Kd.S_drewN | apply Kd.S_drew)); exact HO_7.out⟩, ⟨by repeat (first | (with_reducible first | exact HB.out | apply below_alloc | apply pw_below_drewN | apply below_drew1) | exact HB.out)⟩⟩
              subst c26
              have H1 : (if 0 ≤ x8_1 then (if x8_1 < (x7_3.length : Int) then (if 0 ≤ (wrap64 (x10_3 + 1)) then (if (wrap64 (x10_3 + 1)) < ((rd_L3 x7_3 x8_1).length : Int) then (if rdOf false (rd_L3 x7_3 x8_1) (wrap64 (x10_3 + 1)) = true then (dropperref04_lengths.l2 k3 l0 a1 a2 (x7_3.set (x8_1 : Int).toNat ((rd_L3 x7_3 x8_1).set ((wrap64 (x10_3 + 1)) : Int).toNat true)) x8_1 x9_2 (wrap64 (x10_3 + 1))) else (if 0 ≤ x9_2 then (if x9_2 < (x7_3.length : Int) then (if 0 ≤ x10_3 then (if x10_3 < ((rd_L3 x7_3 x9_2).length : Int) then (dropperref04_lengths.l2 k3 l0 a1 a2 (x7_3.set (x8_1 : Int).toNat ((rd_L3 x7_3 x8_1).set ((wrap64 (x10_3 + 1)) : Int).toNat (rdOf false (rd_L3 x7_3 x9_2) x10_3))) x8_1 x9_2 (wrap64 (x10_3 + 1))) else (none)) else (none)) else (none)) else (none))) else (none)) else (none)) else (none)) else (none)) = some r := by rw [if_pos rfl] at H; exact H
              clear H
              have H := H1
              clear H1
              by_cases c27 : 0 ≤ x8_1
              rotate_left
              · rw [if_neg c27] at H
                exact absurd H (by simp)
              rw [if_pos c27] at H
              have c27b0 : decide (0 ≤ x8_1) = true := decide_eq_true c27
              clear c27
              by_cases c28 : x8_1 < (x7_3.length : Int)
              rotate_left
              · rw [if_neg c28] at H
                exact absurd H (by simp)
              rw [if_pos c28] at H
              have c28b0 : decide (x8_1 < (x7_3.length : Int)) = true := decide_eq_true c28
              (try (have c28b0h := c28b0; simp only [hl7_2, hl7_3] at c28b0h))
              clear c28
              obtain ⟨ji29, hji29⟩ : ∃ j_ : Int, (wrap64 (x10_3 + 1)) = j_ := ⟨_, rfl⟩
              replace H : (if 0 ≤ (ji29) then (if (ji29) < ((rd_L3 x7_3 x8_1).length : Int) then (if rdOf false (rd_L3 x7_3 x8_1) (ji29) = true then (dropperref04_lengths.l2 k3 l0 a1 a2 (x7_3.set (x8_1 : Int).toNat ((rd_L3 x7_3 x8_1).set ((ji29) : Int).toNat true)) x8_1 x9_2 ji29) else (if 0 ≤ x9_2 then (if x9_2 < (x7_3.length : Int) then (if 0 ≤ x10_3 then (if x10_3 < ((rd_L3 x7_3 x9_2).length : Int) then (dropperref04_lengths.l2 k3 l0 a1 a2 (x7_3.set (x8_1 : Int).toNat ((rd_L3 x7_3 x8_1).set ((ji29) : Int).toNat (rdOf false (rd_L3 x7_3 x9_2) x10_3))) x8_1 x9_2 ji29) else (none)) else (none)) else (none)) else (none))) else (none)) else (none)) = some r := by first | (rw [hji29] at H; exact H) | (simp only [hji29] at H ⊢; exact H)
              (try rw [hji29] at A25)
              have hji29w : (IntKind.i64.wrap (x10_3 + 1)) = ji29 := (i64_w _).trans hji29
              by_cases c30 : 0 ≤ (ji29)
              rotate_left
              · rw [if_neg c30] at H
                exact absurd H (by simp)
              rw [if_pos c30] at H
              have c30b0 : decide (0 ≤ (ji29)) = true := decide_eq_true c30
              clear c30
              by_cases c31 : (ji29) < ((rd_L3 x7_3 x8_1).length : Int)
              rotate_left
              · rw [if_neg c31] at H
                exact absurd H (by simp)
              rw [if_pos c31] at H
              have c31b0 : decide ((ji29) < ((rd_L3 x7_3 x8_1).length : Int)) = true := decide_eq_true c31
              (try (have c31b0h := c31b0; simp only [hl7_2, hl7_3] at c31b0h))
              clear c31
              obtain ⟨bq32, hbq32⟩ : ∃ b_ : Bool, b_ = (rdOf false (rd_L3 x7_3 x8_1) (ji29)) := ⟨_, rfl⟩
              replace H : (if bq32 = true then (dropperref04_lengths.l2 k3 l0 a1 a2 (x7_3.set (x8_1 : Int).toNat ((rd_L3 x7_3 x8_1).set ((ji29) : Int).toNat true)) x8_1 x9_2 ji29) else (if 0 ≤ x9_2 then (if x9_2 < (x7_3.length : Int) then (if 0 ≤ x10_3 then (if x10_3 < ((rd_L3 x7_3 x9_2).length : Int) then (dropperref04_lengths.l2 k3 l0 a1 a2 (x7_3.set (x8_1 : Int).toNat ((rd_L3 x7_3 x8_1).set ((ji29) : Int).toNat (rdOf false (rd_L3 x7_3 x9_2) x10_3))) x8_1 x9_2 ji29) else (none)) else (none)) else (none)) else (none))) = some r := by rw [← hbq32] at H; exact H
              have Nbq32 := Aside0.mk hbq32
              clear hbq32
              by_cases c33 : bq32 = true
              · subst c33
                have H1 : (dropperref04_lengths.l2 k3 l0 a1 a2 (x7_3.set (x8_1 : Int).toNat ((rd_L3 x7_3 x8_1).set ((ji29) : Int).toNat true)) x8_1 x9_2 ji29) = some r := by rw [if_pos rfl] at H; exact H
                clear H
                have H := H1
                clear H1
                obtain ⟨y116, hy116⟩ : ∃ y_ : List Bool, y_ = ((rd_L3 x7_3 x8_1).set ((ji29) : Int).toNat true) := ⟨_, rfl⟩
                replace H : (dropperref04_lengths.l2 k3 l0 a1 a2 (x7_3.set (x8_1 : Int).toNat y116) x8_1 x9_2 ji29) = some r := by first | (rw [hy116]; with_reducible exact H) | (have H2_ := (Option.bind_some _ _).symm.trans H; rw [hy116]; with_reducible exact H2_) | (have H2_ := (Option.bind_some _ _).symm.trans H; with_reducible exact H2_) | with_reducible exact H | (rw [hy116]; exact H) | exact H
                have Ny116 := Aside0.mk hy116
                clear hy116
                obtain ⟨y118, hy118⟩ : ∃ y_ : List (List Bool), y_ = (x7_3.set (x8_1 : Int).toNat y116) := ⟨_, rfl⟩
                replace H : (dropperref04_lengths.l2 k3 l0 a1 a2 y118 x8_1 x9_2 ji29) = some r := by first | (rw [hy118]; with_reducible exact H) | (have H2_ := (Option.bind_some _ _).symm.trans H; rw [hy118]; with_reducible exact H2_) | (have H2_ := (Option.bind_some _ _).symm.trans H; with_reducible exact H2_) | with_reducible exact H | (rw [hy118]; exact H) | exact H
                have Ny118 := Aside0.mk hy118
                clear hy118
                have H' := Aside0.mk H
                clear H
                try go_wp2_with (first | (go_at_call 62; (with_reducible refine (dropperref04_may.calls _ _ l0 a1 a2 x8_1 x9_2 true _ ?side1 ?side2 A25.out).mono ?_); (case side1 => repeat (first | exact (Kd.C_below HR0.out HB.out) | (with_reducible refine Kd.C_alloc ?_ _) | (with_reducible refine Kd.C_drewN ?_ _) | (with_reducible refine Kd.C_drew ?_))); (case side2 => exact HC0.out); rintro e w' ⟨rfl, ⟨nd, rfl⟩⟩; (try (rw [drewN_self wr]; generalize hq_ : World.drewN wr _ = wr; have n0_ : Aside0 (Kd.S (Kd.slice 4 Kd.bool) 88 wr w.heap.size (fun _ => True) (.slice (some ⟨go14, 0, none⟩) x7_3.length co14) x7_3) := ⟨by rw [← hq_]; exact (by (with_reducible repeat (first | apply Kd.S_alloc | apply Kd.S_drewN | apply Kd.S_drew)); exact HO_7.out)⟩; have n1_ : Aside0 (Below w.heap.size w wr) := ⟨by rw [← hq_]; exact (by repeat (first | (with_reducible first | exact HB.out | apply below_alloc | apply pw_below_drewN | apply below_drew1) | exact HB.out))⟩; clear HO_7 HB hq_; have HO_7 := n0_; have HB := n1_; clear n0_ n1_))))
                have n0_ := Aside0.mk (Kd.S_drew HO_7.out)
                have n1_ := Aside0.mk (below_drew1 HB.out)
                clear HO_7
                clear HB
                have HO_7 := n0_
                have HB := n1_
                clear n0_ n1_
                have p113 : 0 ≤ (x8_1 : Int) := of_decide_eq_true (by first | (with_reducible assumption) | assumption)
                have q113 : x8_1 < (x7_3.length : Int) := of_decide_eq_true (by first | (with_reducible assumption) | assumption)
                obtain ⟨ad113, A113_0, c113_0, e113, hx113_0, hl113_0, hi113_0⟩ := at_L3 (Kd.S_reads' HO_7.out).2.2 x8_1 p113 q113
                obtain rfl : (⟨go14, 0, none⟩ : Addr) = ad113 := (by injection e113)
                obtain ⟨ce113, hce113, hMe113, hcc113⟩ := Kd.S_get HO_7.out [] x8_1 p113 (by first | exact q113 | exact of_decide_eq_true (by first | (with_reducible assumption) | assumption) | (have e_ := (Kd.S_reads' HO_7.out).1; omega))
                obtain ⟨ve113_0, rfl, ge113_0⟩ := hMe113
                have hv113_0 := hcc113 0 _ rfl
                rw [Nat.add_zero, show ((Kd.slice 4 Kd.bool)).sz = 1 from rfl, Nat.mul_one] at hv113_0
                replace hv113_0 := Option.some.inj (hv113_0.symm.trans hx113_0)
                rw [hv113_0] at ge113_0
                have HL113_0 := Aside0.mk (show Kd.R Kd.bool 4 _ _ _ _ (rd_L3 x7_3 x8_1) from ge113_0)
                clear hv113_0 ge113_0
                have HX113_0 := Aside0.mk hx113_0
                clear hcc113 hce113
                (first | simp only [add_plain] at hx113_0 | simp only [add_at] at hx113_0 | simp only [Addr.add, Nat.zero_add] at hx113_0 | skip)
                have HR113_0 := Aside0.mk hi113_0
                have HC113_0 := Aside0.mk hl113_0
                clear hi113_0 hl113_0
                replace p113 := eq_true p113
                replace q113 := eq_true q113
                have p114 : 0 ≤ (x8_1 : Int) := of_decide_eq_true (by first | (with_reducible assumption) | assumption)
                have q114 : x8_1 < (x7_3.length : Int) := of_decide_eq_true (by first | (with_reducible assumption) | assumption)
                obtain ⟨ad114, A114_0, c114_0, e114, hx114_0, hl114_0, hi114_0⟩ := at_L3 (Kd.S_reads' HO_7.out).2.2 x8_1 p114 q114
                obtain rfl : (⟨go14, 0, none⟩ : Addr) = ad114 := (by injection e114)
                obtain ⟨ce114, hce114, hMe114, hcc114⟩ := Kd.S_get HO_7.out [] x8_1 p114 (by first | exact q114 | exact of_decide_eq_true (by first | (with_reducible assumption) | assumption) | (have e_ := (Kd.S_reads' HO_7.out).1; omega))
                obtain ⟨ve114_0, rfl, ge114_0⟩ := hMe114
                have hv114_0 := hcc114 0 _ rfl
                rw [Nat.add_zero, show ((Kd.slice 4 Kd.bool)).sz = 1 from rfl, Nat.mul_one] at hv114_0
                replace hv114_0 := Option.some.inj (hv114_0.symm.trans hx114_0)
                rw [hv114_0] at ge114_0
                have HL114_0 := Aside0.mk (show Kd.R Kd.bool 4 _ _ _ _ (rd_L3 x7_3 x8_1) from ge114_0)
                clear hv114_0 ge114_0
                have HX114_0 := Aside0.mk hx114_0
                clear hcc114 hce114
                (first | simp only [add_plain] at hx114_0 | simp only [add_at] at hx114_0 | simp only [Addr.add, Nat.zero_add] at hx114_0 | skip)
                have HR114_0 := Aside0.mk hi114_0
                have HC114_0 := Aside0.mk hl114_0
                clear hi114_0 hl114_0
                replace p114 := eq_true p114
                replace q114 := eq_true q114
                have ea_ := Option.some.inj (hx113_0.symm.trans hx114_0)
                injection ea_ with ea_ en_ ec_
                subst ea_
                subst ec_
                clear en_
                have p115 : 0 ≤ ((ji29) : Int) := of_decide_eq_true (by first | (with_reducible assumption) | assumption)
                have q115 : (ji29) < ((rd_L3 x7_3 x8_1).length : Int) := of_decide_eq_true (by first | (with_reducible assumption) | assumption)
                obtain ⟨ad115, e115, hx115_0⟩ := Kd.at_bool (by repeat (first | (with_reducible exact HR114_0.out) | (with_reducible refine Kd.C_alloc ?_ _) | (with_reducible refine Kd.C_drewN ?_ _) | (with_reducible refine Kd.C_drew ?_) | exact HR114_0.out)) (ji29) p115 q115
                (try rw [← Nbq32.out] at hx115_0)
                cases e115
                replace p115 := eq_true p115
                replace q115 := eq_true q115
                have p34 : 0 ≤ ((ji29) : Int) := of_decide_eq_true (by first | (with_reducible assumption) | assumption)
                have q34 : ((ji29) : Int) < (((rd_L3 x7_3 x8_1).length : Int) : Int) := of_decide_eq_true (by first | (with_reducible assumption) | assumption)
                obtain ⟨go34, co34, eo34, gb34, gl34, cl34, HG34⟩ := Kd.R_form HL113_0.out (by omega)
                (first | cases eo34 | (injection eo34 with ea_ en_ ec_; (first | subst ea_ | (injection ea_ with ea_; subst ea_)); subst ec_; clear en_))
                have GB34 := Aside0.mk gb34
                have GG34 := Aside0.mk HG34
                clear gb34 gl34 HG34
                (first | simp only [add_plain] at hx115_0 | skip)
                obtain ⟨hx34_0, hf34_0⟩ := Kd.R_celln false HL113_0.out ((ji29) : Int) p34 q34
                replace p34 := eq_true p34
                replace q34 := eq_true q34
                have hq36 : (x8_1 : Int) < (x7_3.length : Int) := (by have h_ : (x8_1 : Int) < ((x7_3.length : Int) : Int) := of_decide_eq_true (by first | (with_reducible assumption) | assumption); first | exact h_ | (have e_ := (Kd.S_reads' HO_7.out).1; omega) | simpa only [List.length_set, List.length_set] using h_)
                obtain ⟨oki36, ce36, hcl36, hM36, hcc36, hok36, hbk36⟩ := Kd.S_borrow HO_7.out [] (x8_1 : Int) (of_decide_eq_true (by first | (with_reducible assumption) | assumption)) hq36
                obtain ⟨ve36_0, rfl, ge36_0⟩ := hM36
                have hv36 := hcc36 0 _ rfl
                rw [Nat.add_zero, show ((Kd.slice 4 Kd.bool)).sz = 1 from rfl, Nat.mul_one] at hv36
                replace hv36 := Option.some.inj (hv36.symm.trans HX113_0.out)
                subst hv36
                clear hcc36 hcl36
                replace ge36_0 := (show Kd.R Kd.bool 4 _ _ _ _ (rd_L3 x7_3 x8_1) from ge36_0)
                have HP36 := Kd.R_putg ge36_0 ((ji29) : Int) true
                rw [← Ny116.out] at HP36
                have HS36 := hbk36 HP36.2 (fun k_ e_ => by injection e_ with e_; subst e_; exact ge36_0.1 _ rfl) (x' := y116) (Kd.M_row HP36.1)
                rw [← Ny118.out] at HS36
                have HQ36 := Aside0.mk HS36
                clear HP36 HS36 hbk36 hok36
                refine start_ (n := 25) (S := fun w' => w'.cell? ⟨go14, (x8_1).toNat, none⟩ = some (.slice (some ⟨go34, 0, none⟩) (rd_L3 x7_3 x8_1).length c113_0) ∧ w'.cell? ⟨go14, (x8_1).toNat, none⟩ = some (.slice (some ⟨go34, 0, none⟩) (rd_L3 x7_3 x8_1).length c113_0) ∧ w'.cell? ⟨go34, ((ji29)).toNat, none⟩ = some (.bool true)) (ds := [24]) (mkB 25 0) (by kernel_rfl) rfl rfl ⟨hx113_0, hx114_0, hx115_0⟩ (fun hHeld => ?_); refine with_tabW dropperref04_lengths.tab13 dropperref04_lengths.bits13 (fun HT_ HW_ => ?_)
                generalize wr.drew = w35 at HO_7 HB GG34 HL113_0 HL114_0 HQ36 HR113_0 HR114_0 HX113_0 HX114_0 hf34_0 hx113_0 hx114_0 hx115_0 hx34_0 hHeld ⊢
                refine pr_ 0 (some 60) (mkB 25 1) HT_ ?_
                refine pr_ 1 (some 61) (mkB 25 3) HT_ ?_
                refine pr_ 2 (some 62) (mkB 25 7) HT_ ?_
                refine pr_ 4 (some 64) (mkB 25 23) HT_ ?_
                refine pr_ 5 (some 65) (mkB 25 55) HT_ ?_
                refine pr_ 6 (some 66) (mkB 25 119) HT_ ?_
                refine pr_ 7 (some 67) (mkB 25 247) HT_ ?_
                refine pr_ 8 (some 68) (mkB 25 503) HT_ ?_
                refine pr_ 10 (some 70) (mkB 25 1527) HT_ ?_
                refine pr_ 11 (some 71) (mkB 25 3575) HT_ ?_
                refine take_ (i := 3) (N := some 63) (v := ?_) (a' := ?_) (mkB 25 3583) rfl rfl (take_ofW HT_.out HW_.out (by kernel_rfl)) (fun _ _ _ h => h) (Or.inl ⟨by rfl, ?_⟩) hHeld ?_ ?_
                rotate_left
                · rintro w' ⟨s0, s1, s2⟩
                  go_simp
                  with_reducible rfl
                rotate_left
                · simp only [Act.put, List.setIfInBounds_toArray, List.set_cons_zero, List.set_cons_succ, i64_w, i32_w]
                  rfl
                refine take_ (i := 9) (N := some 69) (v := ?_) (a' := ?_) (mkB 25 4095) rfl rfl (take_ofW HT_.out HW_.out (by kernel_rfl)) (fun _ _ _ h => h) (Or.inl ⟨by rfl, ?_⟩) hHeld ?_ ?_
                rotate_left
                · rintro w' ⟨s0, s1, s2⟩
                  go_simp
                  with_reducible rfl
                rotate_left
                · simp only [Act.put, List.setIfInBounds_toArray, List.set_cons_zero, List.set_cons_succ, i64_w, i32_w]
                  rfl
                refine pr_ 12 (some 72) (mkB 25 8191) HT_ ?_
                refine take_ (i := 13) (N := some 73) (v := ?_) (a' := ?_) (mkB 25 16383) rfl rfl (take_ofW HT_.out HW_.out (by kernel_rfl)) (fun _ _ _ h => h) (Or.inl ⟨by rfl, ?_⟩) hHeld ?_ ?_
                rotate_left
                · rintro w' ⟨s0, s1, s2⟩
                  go_simp
                  with_reducible rfl
                rotate_left
                · simp only [Act.put, List.setIfInBounds_toArray, List.set_cons_zero, List.set_cons_succ, i64_w, i32_w]
                  rfl
                refine pr_ 14 (some 74) (mkB 25 32767) HT_ ?_
                refine pu_ 15 (some 75) (mkB 25 65535) HT_ ?_
                refine pu_ 16 (some 76) (mkB 25 131071) HT_ ?_
                refine pu_ 17 (some 77) (mkB 25 262143) HT_ ?_
                refine pu_ 18 (some 78) (mkB 25 524287) HT_ ?_
                refine pu_ 19 (some 79) (mkB 25 1048575) HT_ ?_
                refine pu_ 20 (some 80) (mkB 25 2097151) HT_ ?_
                refine pu_ 21 (some 81) (mkB 25 4194303) HT_ ?_
                refine pr_ 22 (some 82) (mkB 25 8388607) HT_ ?_
                refine pr_ 23 (some 83) (mkB 25 16777215) HT_ ?_
                refine last_ (i := 24) (N := none) (mkB 25 33554431) rfl rfl (one_of HT_.out (by kernel_rfl)) (by decide) (fun K hK => ?_)
                refine skip_ (w1 := ?_) (by rfl) rfl ?_ ?_
                rotate_left
                · go_simp
                  rfl
                refine hK.out _ _ ?_
                clear hK K
                refine done_ (done_of HT_.out (by kernel_rfl)) ?_
                try go_wp2
                (try simp only [← hl7_3])
                go_roundg k3
                case measure => have := HK1.out; have := HK2.out; have := HK3.out; omega
                case rel => exact ⟨(y118), (ji29), (by first | rfl | (simp; done) | (simp only [← hji29] <;> (first | rfl | simp)) | (simp [*]; done)), H', ⟨by have := HK1.out; have := HK2.out; have := HK3.out; omega⟩, ⟨by (try simp only [hl7_2]); (try simp only [hl7_3]); (with_reducible repeat (first | apply Kd.S_alloc | apply Kd.S_drewN | apply Kd.S_drew)); exact HQ36.out⟩, ⟨by repeat (first | (with_reducible first | exact HB.out | apply below_alloc | apply pw_below_drewN | apply below_drew1 | refine below_set ?_ GB34.out) | exact HB.out)⟩⟩
              replace c33 := Bool.eq_false_iff.mpr c33
              subst c33
              have H1 : (if 0 ≤ x9_2 then (if x9_2 < (x7_3.length : Int) then (if 0 ≤ x10_3 then (if x10_3 < ((rd_L3 x7_3 x9_2).length : Int) then (dropperref04_lengths.l2 k3 l0 a1 a2 (x7_3.set (x8_1 : Int).toNat ((rd_L3 x7_3 x8_1).set ((ji29) : Int).toNat (rdOf false (rd_L3 x7_3 x9_2) x10_3))) x8_1 x9_2 ji29) else (none)) else (none)) else (none)) else (none)) = some r := by rw [if_neg (show ¬ (false = true) by decide)] at H; exact H
              clear H
              have H := H1
              clear H1
              by_cases c38 : 0 ≤ x9_2
              rotate_left
              · rw [if_neg c38] at H
                exact absurd H (by simp)
              rw [if_pos c38] at H
              have c38b0 : decide (0 ≤ x9_2) = true := decide_eq_true c38
              clear c38
              by_cases c39 : x9_2 < (x7_3.length : Int)
              rotate_left
              · rw [if_neg c39] at H
                exact absurd H (by simp)
              rw [if_pos c39] at H
              have c39b0 : decide (x9_2 < (x7_3.length : Int)) = true := decide_eq_true c39
              (try (have c39b0h := c39b0; simp only [hl7_2, hl7_3] at c39b0h))
              clear c39
              by_cases c40 : 0 ≤ x10_3
              rotate_left
              · rw [if_neg c40] at H
                exact absurd H (by simp)
              rw [if_pos c40] at H
              have c40b0 : decide (0 ≤ x10_3) = true := decide_eq_true c40
              clear c40
              by_cases c41 : x10_3 < ((rd_L3 x7_3 x9_2).length : Int)
              rotate_left
              · rw [if_neg c41] at H
                exact absurd H (by simp)
              rw [if_pos c41] at H
              have c41b0 : decide (x10_3 < ((rd_L3 x7_3 x9_2).length : Int)) = true := decide_eq_true c41
              (try (have c41b0h := c41b0; simp only [hl7_2, hl7_3] at c41b0h))
              clear c41
              obtain ⟨y121, hy121⟩ : ∃ y_ : List Bool, y_ = ((rd_L3 x7_3 x8_1).set ((ji29) : Int).toNat (rdOf false (rd_L3 x7_3 x9_2) x10_3)) := ⟨_, rfl⟩
              replace H : (dropperref04_lengths.l2 k3 l0 a1 a2 (x7_3.set (x8_1 : Int).toNat y121) x8_1 x9_2 ji29) = some r := by first | (rw [hy121]; with_reducible exact H) | (have H2_ := (Option.bind_some _ _).symm.trans H; rw [hy121]; with_reducible exact H2_) | (have H2_ := (Option.bind_some _ _).symm.trans H; with_reducible exact H2_) | with_reducible exact H | (rw [hy121]; exact H) | exact H
              have Ny121 := Aside0.mk hy121
              clear hy121
              obtain ⟨y123, hy123⟩ : ∃ y_ : List (List Bool), y_ = (x7_3.set (x8_1 : Int).toNat y121) := ⟨_, rfl⟩
              replace H : (dropperref04_lengths.l2 k3 l0 a1 a2 y123 x8_1 x9_2 ji29) = some r := by first | (rw [hy123]; with_reducible exact H) | (have H2_ := (Option.bind_some _ _).symm.trans H; rw [hy123]; with_reducible exact H2_) | (have H2_ := (Option.bind_some _ _).symm.trans H; with_reducible exact H2_) | with_reducible exact H | (rw [hy123]; exact H) | exact H
              have Ny123 := Aside0.mk hy123
              clear hy123
              have H' := Aside0.mk H
              clear H
              try go_wp2_with (first | (go_at_call 62; (with_reducible refine (dropperref04_may.calls _ _ l0 a1 a2 x8_1 x9_2 true _ ?side1 ?side2 A25.out).mono ?_); (case side1 => repeat (first | exact (Kd.C_below HR0.out HB.out) | (with_reducible refine Kd.C_alloc ?_ _) | (with_reducible refine Kd.C_drewN ?_ _) | (with_reducible refine Kd.C_drew ?_))); (case side2 => exact HC0.out); rintro e w' ⟨rfl, ⟨nd, rfl⟩⟩; (try (rw [drewN_self wr]; generalize hq_ : World.drewN wr _ = wr; have n0_ : Aside0 (Kd.S (Kd.slice 4 Kd.bool) 88 wr w.heap.size (fun _ => True) (.slice (some ⟨go14, 0, none⟩) x7_3.length co14) x7_3) := ⟨by rw [← hq_]; exact (by (with_reducible repeat (first | apply Kd.S_alloc | apply Kd.S_drewN | apply Kd.S_drew)); exact HO_7.out)⟩; have n1_ : Aside0 (Below w.heap.size w wr) := ⟨by rw [← hq_]; exact (by repeat (first | (with_reducible first | exact HB.out | apply below_alloc | apply pw_below_drewN | apply below_drew1) | exact HB.out))⟩; clear HO_7 HB hq_; have HO_7 := n0_; have HB := n1_; clear n0_ n1_))))
              have n0_ := Aside0.mk (Kd.S_drew HO_7.out)
              have n1_ := Aside0.mk (below_drew1 HB.out)
              clear HO_7
              clear HB
              have HO_7 := n0_
              have HB := n1_
              clear n0_ n1_
              have p113 : 0 ≤ (x8_1 : Int) := of_decide_eq_true (by first | (with_reducible assumption) | assumption)
              have q113 : x8_1 < (x7_3.length : Int) := of_decide_eq_true (by first | (with_reducible assumption) | assumption)
              obtain ⟨ad113, A113_0, c113_0, e113, hx113_0, hl113_0, hi113_0⟩ := at_L3 (Kd.S_reads' HO_7.out).2.2 x8_1 p113 q113
              obtain rfl : (⟨go14, 0, none⟩ : Addr) = ad113 := (by injection e113)
              obtain ⟨ce113, hce113, hMe113, hcc113⟩ := Kd.S_get HO_7.out [] x8_1 p113 (by first | exact q113 | exact of_decide_eq_true (by first | (with_reducible assumption) | assumption) | (have e_ := (Kd.S_reads' HO_7.out).1; omega))
              obtain ⟨ve113_0, rfl, ge113_0⟩ := hMe113
              have hv113_0 := hcc113 0 _ rfl
              rw [Nat.add_zero, show ((Kd.slice 4 Kd.bool)).sz = 1 from rfl, Nat.mul_one] at hv113_0
              replace hv113_0 := Option.some.inj (hv113_0.symm.trans hx113_0)
              rw [hv113_0] at ge113_0
              have HL113_0 := Aside0.mk (show Kd.R Kd.bool 4 _ _ _ _ (rd_L3 x7_3 x8_1) from ge113_0)
              clear hv113_0 ge113_0
              have HX113_0 := Aside0.mk hx113_0
              clear hcc113 hce113
              (first | simp only [add_plain] at hx113_0 | simp only [add_at] at hx113_0 | simp only [Addr.add, Nat.zero_add] at hx113_0 | skip)
              have HR113_0 := Aside0.mk hi113_0
              have HC113_0 := Aside0.mk hl113_0
              clear hi113_0 hl113_0
              replace p113 := eq_true p113
              replace q113 := eq_true q113
              have p114 : 0 ≤ (x8_1 : Int) := of_decide_eq_true (by first | (with_reducible assumption) | assumption)
              have q114 : x8_1 < (x7_3.length : Int) := of_decide_eq_true (by first | (with_reducible assumption) | assumption)
              obtain ⟨ad114, A114_0, c114_0, e114, hx114_0, hl114_0, hi114_0⟩ := at_L3 (Kd.S_reads' HO_7.out).2.2 x8_1 p114 q114
              obtain rfl : (⟨go14, 0, none⟩ : Addr) = ad114 := (by injection e114)
              obtain ⟨ce114, hce114, hMe114, hcc114⟩ := Kd.S_get HO_7.out [] x8_1 p114 (by first | exact q114 | exact of_decide_eq_true (by first | (with_reducible assumption) | assumption) | (have e_ := (Kd.S_reads' HO_7.out).1; omega))
              obtain ⟨ve114_0, rfl, ge114_0⟩ := hMe114
              have hv114_0 := hcc114 0 _ rfl
              rw [Nat.add_zero, show ((Kd.slice 4 Kd.bool)).sz = 1 from rfl, Nat.mul_one] at hv114_0
              replace hv114_0 := Option.some.inj (hv114_0.symm.trans hx114_0)
              rw [hv114_0] at ge114_0
              have HL114_0 := Aside0.mk (show Kd.R Kd.bool 4 _ _ _ _ (rd_L3 x7_3 x8_1) from ge114_0)
              clear hv114_0 ge114_0
              have HX114_0 := Aside0.mk hx114_0
              clear hcc114 hce114
              (first | simp only [add_plain] at hx114_0 | simp only [add_at] at hx114_0 | simp only [Addr.add, Nat.zero_add] at hx114_0 | skip)
              have HR114_0 := Aside0.mk hi114_0
              have HC114_0 := Aside0.mk hl114_0
              clear hi114_0 hl114_0
              replace p114 := eq_true p114
              replace q114 := eq_true q114
              have ea_ := Option.some.inj (hx113_0.symm.trans hx114_0)
              injection ea_ with ea_ en_ ec_
              subst ea_
              subst ec_
              clear en_
              have p115 : 0 ≤ ((ji29) : Int) := of_decide_eq_true (by first | (with_reducible assumption) | assumption)
              have q115 : (ji29) < ((rd_L3 x7_3 x8_1).length : Int) := of_decide_eq_true (by first | (with_reducible assumption) | assumption)
              obtain ⟨ad115, e115, hx115_0⟩ := Kd.at_bool (by repeat (first | (with_reducible exact HR114_0.out) | (with_reducible refine Kd.C_alloc ?_ _) | (with_reducible refine Kd.C_drewN ?_ _) | (with_reducible refine Kd.C_drew ?_) | exact HR114_0.out)) (ji29) p115 q115
              (try rw [← Nbq32.out] at hx115_0)
              cases e115
              replace p115 := eq_true p115
              replace q115 := eq_true q115
              have p119 : 0 ≤ (x9_2 : Int) := of_decide_eq_true (by first | (with_reducible assumption) | assumption)
              have q119 : x9_2 < (x7_3.length : Int) := of_decide_eq_true (by first | (with_reducible assumption) | assumption)
              obtain ⟨ad119, A119_0, c119_0, e119, hx119_0, hl119_0, hi119_0⟩ := at_L3 (Kd.S_reads' HO_7.out).2.2 x9_2 p119 q119
              obtain rfl : (⟨go14, 0, none⟩ : Addr) = ad119 := (by injection e119)
              obtain ⟨ce119, hce119, hMe119, hcc119⟩ := Kd.S_get HO_7.out [] x9_2 p119 (by first | exact q119 | exact of_decide_eq_true (by first | (with_reducible assumption) | assumption) | (have e_ := (Kd.S_reads' HO_7.out).1; omega))
              obtain ⟨ve119_0, rfl, ge119_0⟩ := hMe119
              have hv119_0 := hcc119 0 _ rfl
              rw [Nat.add_zero, show ((Kd.slice 4 Kd.bool)).sz = 1 from rfl, Nat.mul_one] at hv119_0
              replace hv119_0 := Option.some.inj (hv119_0.symm.trans hx119_0)
              rw [hv119_0] at ge119_0
              have HL119_0 := Aside0.mk (show Kd.R Kd.bool 4 _ _ _ _ (rd_L3 x7_3 x9_2) from ge119_0)
              clear hv119_0 ge119_0
              have HX119_0 := Aside0.mk hx119_0
              clear hcc119 hce119
              (first | simp only [add_plain] at hx119_0 | simp only [add_at] at hx119_0 | simp only [Addr.add, Nat.zero_add] at hx119_0 | skip)
              have HR119_0 := Aside0.mk hi119_0
              have HC119_0 := Aside0.mk hl119_0
              clear hi119_0 hl119_0
              replace p119 := eq_true p119
              replace q119 := eq_true q119
              have p120 : 0 ≤ (x10_3 : Int) := of_decide_eq_true (by first | (with_reducible assumption) | assumption)
              have q120 : x10_3 < ((rd_L3 x7_3 x9_2).length : Int) := of_decide_eq_true (by first | (with_reducible assumption) | assumption)
              obtain ⟨ad120, e120, hx120_0⟩ := Kd.at_bool (by repeat (first | (with_reducible exact HR119_0.out) | (with_reducible refine Kd.C_alloc ?_ _) | (with_reducible refine Kd.C_drewN ?_ _) | (with_reducible refine Kd.C_drew ?_) | exact HR119_0.out)) x10_3 p120 q120
              (try rw [← Nbq32.out] at hx120_0)
              cases e120
              replace p120 := eq_true p120
              replace q120 := eq_true q120
              have p42 : 0 ≤ ((ji29) : Int) := of_decide_eq_true (by first | (with_reducible assumption) | assumption)
              have q42 : ((ji29) : Int) < (((rd_L3 x7_3 x8_1).length : Int) : Int) := of_decide_eq_true (by first | (with_reducible assumption) | assumption)
              obtain ⟨go42, co42, eo42, gb42, gl42, cl42, HG42⟩ := Kd.R_form HL113_0.out (by omega)
              (first | cases eo42 | (injection eo42 with ea_ en_ ec_; (first | subst ea_ | (injection ea_ with ea_; subst ea_)); subst ec_; clear en_))
              have GB42 := Aside0.mk gb42
              have GG42 := Aside0.mk HG42
              clear gb42 gl42 HG42
              (first | simp only [add_plain] at hx115_0 | skip)
              obtain ⟨hx42_0, hf42_0⟩ := Kd.R_celln false HL113_0.out ((ji29) : Int) p42 q42
              replace p42 := eq_true p42
              replace q42 := eq_true q42
              have hq44 : (x8_1 : Int) < (x7_3.length : Int) := (by have h_ : (x8_1 : Int) < ((x7_3.length : Int) : Int) := of_decide_eq_true (by first | (with_reducible assumption) | assumption); first | exact h_ | (have e_ := (Kd.S_reads' HO_7.out).1; omega) | simpa only [List.length_set, List.length_set] using h_)
              obtain ⟨oki44, ce44, hcl44, hM44, hcc44, hok44, hbk44⟩ := Kd.S_borrow HO_7.out [] (x8_1 : Int) (of_decide_eq_true (by first | (with_reducible assumption) | assumption)) hq44
              obtain ⟨ve44_0, rfl, ge44_0⟩ := hM44
              have hv44 := hcc44 0 _ rfl
              rw [Nat.add_zero, show ((Kd.slice 4 Kd.bool)).sz = 1 from rfl, Nat.mul_one] at hv44
              replace hv44 := Option.some.inj (hv44.symm.trans HX113_0.out)
              subst hv44
              clear hcc44 hcl44
              replace ge44_0 := (show Kd.R Kd.bool 4 _ _ _ _ (rd_L3 x7_3 x8_1) from ge44_0)
              have HP44 := Kd.R_putg ge44_0 ((ji29) : Int) (rdOf false (rd_L3 x7_3 x9_2) x10_3)
              rw [← Ny121.out] at HP44
              have HS44 := hbk44 HP44.2 (fun k_ e_ => by injection e_ with e_; subst e_; exact ge44_0.1 _ rfl) (x' := y121) (Kd.M_row HP44.1)
              rw [← Ny123.out] at HS44
              have HQ44 := Aside0.mk HS44
              clear HP44 HS44 hbk44 hok44
              refine start_ (n := 25) (S := fun w' => w'.cell? ⟨go14, (x8_1).toNat, none⟩ = some (.slice (some ⟨go42, 0, none⟩) (rd_L3 x7_3 x8_1).length c113_0) ∧ w'.cell? ⟨go14, (x8_1).toNat, none⟩ = some (.slice (some ⟨go42, 0, none⟩) (rd_L3 x7_3 x8_1).length c113_0) ∧ w'.cell? ⟨go42, ((ji29)).toNat, none⟩ = some (.bool false) ∧ w'.cell? ⟨go14, (x9_2).toNat, none⟩ = some (.slice (some ad120) (rd_L3 x7_3 x9_2).length c119_0) ∧ w'.cell? (ad120.add (x10_3).toNat) = some (.bool (rdOf false (rd_L3 x7_3 x9_2) x10_3))) (ds := [24]) (mkB 25 0) (by kernel_rfl) rfl rfl ⟨hx113_0, hx114_0, hx115_0, hx119_0, hx120_0⟩ (fun hHeld => ?_); refine with_tabW dropperref04_lengths.tab13 dropperref04_lengths.bits13 (fun HT_ HW_ => ?_)
              generalize wr.drew = w43 at HO_7 HB GG42 HL113_0 HL114_0 HL119_0 HQ44 HR113_0 HR114_0 HR119_0 HX113_0 HX114_0 HX119_0 hf42_0 hx113_0 hx114_0 hx115_0 hx119_0 hx120_0 hx42_0 hHeld ⊢
              refine pr_ 0 (some 60) (mkB 25 1) HT_ ?_
              refine pr_ 1 (some 61) (mkB 25 3) HT_ ?_
              refine pr_ 2 (some 62) (mkB 25 7) HT_ ?_
              refine pr_ 4 (some 64) (mkB 25 23) HT_ ?_
              refine pr_ 5 (some 65) (mkB 25 55) HT_ ?_
              refine pr_ 6 (some 66) (mkB 25 119) HT_ ?_
              refine pr_ 7 (some 67) (mkB 25 247) HT_ ?_
              refine pr_ 8 (some 68) (mkB 25 503) HT_ ?_
              refine pr_ 10 (some 70) (mkB 25 1527) HT_ ?_
              refine pr_ 11 (some 71) (mkB 25 3575) HT_ ?_
              refine take_ (i := 3) (N := some 63) (v := ?_) (a' := ?_) (mkB 25 3583) rfl rfl (take_ofW HT_.out HW_.out (by kernel_rfl)) (fun _ _ _ h => h) (Or.inl ⟨by rfl, ?_⟩) hHeld ?_ ?_
              rotate_left
              · rintro w' ⟨s0, s1, s2, s3, s4⟩
                go_simp
                with_reducible rfl
              rotate_left
              · simp only [Act.put, List.setIfInBounds_toArray, List.set_cons_zero, List.set_cons_succ, i64_w, i32_w]
                rfl
              refine take_ (i := 9) (N := some 69) (v := ?_) (a' := ?_) (mkB 25 4095) rfl rfl (take_ofW HT_.out HW_.out (by kernel_rfl)) (fun _ _ _ h => h) (Or.inl ⟨by rfl, ?_⟩) hHeld ?_ ?_
              rotate_left
              · rintro w' ⟨s0, s1, s2, s3, s4⟩
                go_simp
                with_reducible rfl
              rotate_left
              · simp only [Act.put, List.setIfInBounds_toArray, List.set_cons_zero, List.set_cons_succ, i64_w, i32_w]
                rfl
              refine pr_ 12 (some 72) (mkB 25 8191) HT_ ?_
              refine take_ (i := 13) (N := some 73) (v := ?_) (a' := ?_) (mkB 25 16383) rfl rfl (take_ofW HT_.out HW_.out (by kernel_rfl)) (fun _ _ _ h => h) (Or.inl ⟨by rfl, ?_⟩) hHeld ?_ ?_
              rotate_left
              · rintro w' ⟨s0, s1, s2, s3, s4⟩
                go_simp
                with_reducible rfl
              rotate_left
              · simp only [Act.put, List.setIfInBounds_toArray, List.set_cons_zero, List.set_cons_succ, i64_w, i32_w]
                rfl
              refine pr_ 14 (some 74) (mkB 25 32767) HT_ ?_
              refine pr_ 15 (some 75) (mkB 25 65535) HT_ ?_
              refine pr_ 16 (some 76) (mkB 25 131071) HT_ ?_
              refine pr_ 17 (some 77) (mkB 25 262143) HT_ ?_
              refine pr_ 19 (some 79) (mkB 25 786431) HT_ ?_
              refine take_ (i := 18) (N := some 78) (v := ?_) (a' := ?_) (mkB 25 1048575) rfl rfl (take_ofW HT_.out HW_.out (by kernel_rfl)) (fun _ _ _ h => h) (Or.inl ⟨by rfl, ?_⟩) hHeld ?_ ?_
              rotate_left
              · rintro w' ⟨s0, s1, s2, s3, s4⟩
                go_simp
                with_reducible rfl
              rotate_left
              · simp only [Act.put, List.setIfInBounds_toArray, List.set_cons_zero, List.set_cons_succ, i64_w, i32_w]
                rfl
              refine pr_ 20 (some 80) (mkB 25 2097151) HT_ ?_
              refine take_ (i := 21) (N := some 81) (v := ?_) (a' := ?_) (mkB 25 4194303) rfl rfl (take_ofW HT_.out HW_.out (by kernel_rfl)) (fun _ _ _ h => h) (Or.inl ⟨by rfl, ?_⟩) hHeld ?_ ?_
              rotate_left
              · rintro w' ⟨s0, s1, s2, s3, s4⟩
                go_simp
                with_reducible rfl
              rotate_left
              · simp only [Act.put, List.setIfInBounds_toArray, List.set_cons_zero, List.set_cons_succ, i64_w, i32_w]
                rfl
              refine pr_ 22 (some 82) (mkB 25 8388607) HT_ ?_
              refine pr_ 23 (some 83) (mkB 25 16777215) HT_ ?_
              refine last_ (i := 24) (N := none) (mkB 25 33554431) rfl rfl (one_of HT_.out (by kernel_rfl)) (by decide) (fun K hK => ?_)
              refine skip_ (w1 := ?_) (by rfl) rfl ?_ ?_
              rotate_left
              · go_simp
                rfl
              refine hK.out _ _ ?_
              clear hK K
              refine done_ (done_of HT_.out (by kernel_rfl)) ?_
              try go_wp2
              (try simp only [← hl7_3])
              go_roundg k3
              case measure => have := HK1.out; have := HK2.out; have := HK3.out; omega
              case rel => exact ⟨(y123), (ji29), (by first | rfl | (simp; done) | (simp only [← hji29] <;> (first | rfl | simp)) | (simp [*]; done)), H', ⟨by have := HK1.out; have := HK2.out; have := HK3.out; omega⟩, ⟨by (try simp only [hl7_2]); (try simp only [hl7_3]); (with_reducible repeat (first | apply Kd.S_alloc | apply Kd.S_drewN | apply Kd.S_drew)); exact HQ44.out⟩, ⟨by repeat (first | (with_reducible first | exact HB.out | apply below_alloc | apply pw_below_drewN | apply below_drew1 | refine below_set ?_ GB42.out) | exact HB.out)⟩⟩
end Go.Proofs.Ytiebfmenkpodeaa.G
