-- Written by this session's driver (wip/tools/printmore.py) over the kit's print, with hand-written parts.
import Derived.Test.YthbpibdfookbmaaGBase
import Derived.Test.YthbpibdfookbmaaGF53
import Derived.Test.YthbpibdfookbmaaGF61
namespace Go.Proofs.Ythbpibdfookbmaa.G
open Go.RowKit Go.Proofs.YthbpibdfookbmaaW.PrintWords Go.Proofs.YthbpibdfookbmaaW.PrintLast Go.Proofs.YthbpibdfookbmaaW.PrintMore
attribute [local go_sem] max2_int min2_int max_two min_two max_three min_three max_four min_four   -- for this text's walks alone
set_option linter.unusedVariables false
set_option linter.unusedSimpArgs false

/-! ### ice_game_before: function 57 -/
mutual
def ice_game_before.l0 : Nat → List Bool → List Bool → Int → Int → List Int → List Int → Int → Option (List Bool × Int)
  | 0, _, _, _, _, _, _, _ => none
  | k + 1, x1, x5, x15, x16, x1000, x1001, x1002 => if x16 < x15 then (ice_game_before.l1 k x1 x5 x16 (-1) x15 x16 x1000 x1001 x1002) else (some (x5, x1002))
def ice_game_before.l1 : Nat → List Bool → List Bool → Int → Int → Int → Int → List Int → List Int → Int → Option (List Bool × Int)
  | 0, _, _, _, _, _, _, _, _, _ => none
  | k + 1, x1, x5, x6, x7, x15, x16, x1000, x1001, x1002 => if x7 < (x1000.length : Int) then (if 0 ≤ x6 then (if x6 < (x5.length : Int) then (if rdOf false x5 x6 = true then (ice_game_before.l0 k x1 x5 x15 (wrap64 (x16 + 1)) x1000 x1001 x1002) else ((ice_game_tonight.f k x1000 x1001 x1002 x6 x7).bind fun bt105 => (if bt105.1 = (-1) then (ice_game_before.l1 k x1 (x5.set (x6 : Int).toNat false) x6 (wrap64 (x7 + 1)) x15 x16 x1000 x1001 bt105.2) else (if 0 ≤ bt105.1 then (if bt105.1 < (x1.length : Int) then (ice_game_before.l1 k x1 (x5.set (x6 : Int).toNat (rdOf false x1 bt105.1)) x6 (wrap64 (x7 + 1)) x15 x16 x1000 x1001 bt105.2) else (none)) else (none))))) else (none)) else (none)) else (ice_game_before.l0 k x1 x5 x15 (wrap64 (x16 + 1)) x1000 x1001 x1002)
end
def ice_game_before.f (k : Nat) (s0_0 : List Int) (s0_1 : List Int) (s0_2 : Int) (l1 : List Bool) : Option (List Bool × Int) := if 0 ≤ s0_2 then (if (s0_2 : Int).toNat ≤ 281474976710656 then ((some (List.replicate (s0_2 : Int).toNat false : List Bool)).bind fun y101 => (ice_game_before.l0 k l1 y101 (y101.length : Int) 0 s0_0 s0_1 s0_2)) else (none)) else (none)
theorem ice_game_before.mono_l : ∀ k, (∀ y0 y1 y2 y3 y4 y5 y6, LeO (ice_game_before.l0 k y0 y1 y2 y3 y4 y5 y6) (ice_game_before.l0 (k + 1) y0 y1 y2 y3 y4 y5 y6)) ∧ (∀ y0 y1 y2 y3 y4 y5 y6 y7 y8, LeO (ice_game_before.l1 k y0 y1 y2 y3 y4 y5 y6 y7 y8) (ice_game_before.l1 (k + 1) y0 y1 y2 y3 y4 y5 y6 y7 y8))
  | 0 => ⟨fun _ _ _ _ _ _ _ r h => by simp [ice_game_before.l0] at h, fun _ _ _ _ _ _ _ _ _ r h => by simp [ice_game_before.l1] at h⟩
  | k + 1 => by
    obtain ⟨ih0, ih1⟩ := ice_game_before.mono_l k
    refine ⟨?_, ?_⟩
    · intro y0 y1 y2 y3 y4 y5 y6
      unfold ice_game_before.l0
      repeat' first
      | (with_reducible exact ih0 _ _ _ _ _ _ _)
      | (with_reducible exact ih1 _ _ _ _ _ _ _ _ _)
      | (with_reducible exact ice_game_tonight.mono _ _ _ _ _ _)
      | (with_reducible exact LeO.refl _)
      | (with_reducible exact LeO.none _)
      | (with_reducible refine LeO.ite ?_ ?_)
      | (with_reducible refine LeO.bind ?_ (fun _ => ?_))
      | exact ih0 _ _ _ _ _ _ _
      | exact ih1 _ _ _ _ _ _ _ _ _
      | exact ice_game_tonight.mono _ _ _ _ _ _
      | exact LeO.none _
      | refine LeO.ite ?_ ?_
      | refine LeO.bind ?_ (fun _ => ?_)
    · intro y0 y1 y2 y3 y4 y5 y6 y7 y8
      unfold ice_game_before.l1
      repeat' first
      | (with_reducible exact ih0 _ _ _ _ _ _ _)
      | (with_reducible exact ih1 _ _ _ _ _ _ _ _ _)
      | (with_reducible exact ice_game_tonight.mono _ _ _ _ _ _)
      | (with_reducible exact LeO.refl _)
      | (with_reducible exact LeO.none _)
      | (with_reducible refine LeO.ite ?_ ?_)
      | (with_reducible refine LeO.bind ?_ (fun _ => ?_))
      | exact ih0 _ _ _ _ _ _ _
      | exact ih1 _ _ _ _ _ _ _ _ _
      | exact ice_game_tonight.mono _ _ _ _ _ _
      | exact LeO.none _
      | refine LeO.ite ?_ ?_
      | refine LeO.bind ?_ (fun _ => ?_)
theorem ice_game_before.mono : ∀ a0 a1 a2 a3 k, LeO (ice_game_before.f k a0 a1 a2 a3) (ice_game_before.f (k + 1) a0 a1 a2 a3) := by
  intro a0 a1 a2 a3 k
  obtain ⟨ih0, ih1⟩ := ice_game_before.mono_l k
  unfold ice_game_before.f
  repeat' first
      | (with_reducible exact ih0 _ _ _ _ _ _ _)
      | (with_reducible exact ih1 _ _ _ _ _ _ _ _ _)
      | (with_reducible exact ice_game_tonight.mono _ _ _ _ _ _)
      | (with_reducible exact LeO.refl _)
      | (with_reducible exact LeO.none _)
      | (with_reducible refine LeO.ite ?_ ?_)
      | (with_reducible refine LeO.bind ?_ (fun _ => ?_))
      | exact ih0 _ _ _ _ _ _ _
      | exact ih1 _ _ _ _ _ _ _ _ _
      | exact ice_game_tonight.mono _ _ _ _ _ _
      | exact LeO.none _
      | refine LeO.ite ?_ ?_
      | refine LeO.bind ?_ (fun _ => ?_)
set_option maxHeartbeats 8000000 in
set_option maxRecDepth 100000 in
theorem ice_game_before.calls (k : Nat) (g : Nat) (s0_0 : List Int) (s0_1 : List Int) (s0_2 : Int) (A1 : Option Addr) (c1 : Nat) (l1 : List Bool) (r1 : List Bool) (r2 : Int) (w0 w : World) (hI : IsS87 w0 w g s0_0 s0_1 s0_2) (hB : Below w0.heap.size w0 w) (hr1 : Kd.C Kd.bool w A1 l1.length l1) (hc1 : l1.length ≤ c1) (hf1 : ∀ ad, A1 = some ad → 0 < l1.length → ad.block ≠ g) (h : ice_game_before.f k s0_0 s0_1 s0_2 l1 = some (r1, r2)) :
    Calls Try.prog 57 #[.pointer (some ⟨g, 0, none⟩), .slice A1 l1.length c1] w fun e w' => ∃ v0_ : Value, e = .returned (v0_) ∧ Kd.R Kd.bool 4 w' w.heap.size (fun _ => True) v0_ r1 ∧ IsS87 w0 w' g s0_0 s0_1 r2 ∧ Below w0.heap.size w0 w' ∧ KeepBut w w' g none := by
  have HR1 := Aside0.mk hr1
  have HC1 := Aside0.mk hc1
  clear hr1 hc1
  have HI0 := Aside0.mk hI
  have HK := Aside0.mk (KeepBut.refl w g none)
  have HL := Aside0.mk hB.size
  clear hI
  have HW0 := Aside0.mk hB.size
  have HB := Aside0.mk hB
  clear hB
  have H : (if 0 ≤ s0_2 then (if (s0_2 : Int).toNat ≤ 281474976710656 then ((some (List.replicate (s0_2 : Int).toNat false : List Bool)).bind fun y101 => (ice_game_before.l0 k l1 y101 (y101.length : Int) 0 s0_0 s0_1 s0_2)) else (none)) else (none)) = some (r1, r2) := h
  clear h
  by_cases c3 : 0 ≤ s0_2
  rotate_left
  · rw [if_neg c3] at H
    exact absurd H (by simp)

  rw [if_pos c3] at H
  have c3b0 := eq_true c3
  have c3b1 : decide (0 ≤ s0_2) = true := decide_eq_true c3
  clear c3
  by_cases c4 : (s0_2 : Int).toNat ≤ 281474976710656
  rotate_left
  · rw [if_neg c4] at H
    exact absurd H (by simp)
  rw [if_pos c4] at H
  have c4b0 := eq_true c4
  have c4b1 : decide ((s0_2 : Int).toNat ≤ 281474976710656) = true := decide_eq_true c4
  clear c4
  obtain ⟨y101, hy101⟩ : ∃ y_ : List Bool, y_ = (List.replicate (s0_2 : Int).toNat false) := ⟨_, rfl⟩
  replace H : (ice_game_before.l0 k l1 y101 (y101.length : Int) 0 s0_0 s0_1 s0_2) = some (r1, r2) := by first | (rw [hy101]; with_reducible exact H) | (have H2_ := (Option.bind_some _ _).symm.trans H; rw [hy101]; with_reducible exact H2_) | (have H2_ := (Option.bind_some _ _).symm.trans H; with_reducible exact H2_) | with_reducible exact H | (rw [hy101]; exact H) | exact H
  have Ny101 := Aside0.mk hy101
  clear hy101
  have H' := Aside0.mk H
  clear H
  obtain ⟨ASz5_0, cSz5_0, ASz5_1, cSz5_1, HGz5, hgz5, ⟨HSz5_0, HSLz5_0⟩, ⟨HSz5_1, HSLz5_1⟩⟩ := HI0.out
  have hcz5_0 := cellS87_0 HGz5
  have hcz5_1 := cellS87_1 HGz5
  have hcz5_2 := cellS87_2 HGz5
  have hfz5_2 := blk_frozen HGz5 2
  clear HGz5 hgz5
  go_enter Try.func57, Try.ntmps57
  go_wp2_with (first | ((with_reducible refine gate_dst (N := 13) rfl ?_); refine Kd.R_make Kd.bool _ 4 rfl (N := 13) rfl 56 _ _ rfl s0_2 rfl rfl Try.underlying56 (.bool false) 1 info4 rfl (by decide) (by omega) false (ok := fun _ => True) (okp := fun _ => True) rfl (fun _ hk => hk) trivial (of_decide_eq_true (by first | (with_reducible assumption) | assumption)) (Nat.le_trans (Nat.mul_le_mul_right _ (of_decide_eq_true (by first | (with_reducible assumption) | assumption) : s0_2.toNat ≤ 281474976710656)) (by omega)) (Below.refl _ _) (Nat.le_refl _) ?_; intro v102 w6 ho7 hb hg_ hnew_; clear hg_ hnew_; (first | rw [← Ny101.out] at ho7 | (simp only [Int.reduceToNat] at ho7; rw [← Ny101.out] at ho7)); have n0_ := Aside0.mk (Kd.R_lower ho7 (keep_size (w := w) (g := g) (row := none) (by repeat (first | (with_reducible first | exact HK.out | apply KeepBut.set_ | apply keep_drewN | apply keep_drew | apply keep_alloc) | exact HK.out)))); have n1_ := Aside0.mk (IsS87.below (by repeat (first | (with_reducible first | exact HI0.out | apply IsS87.alloc | apply IsS87.drewN | apply IsS87.drew | apply IsS87.set_2) | exact HI0.out)) hb); have n2_ := Aside0.mk (KeepBut.trans (by repeat (first | (with_reducible first | exact HK.out | apply KeepBut.set_ | apply keep_drewN | apply keep_drew | apply keep_alloc) | exact HK.out)) (KeepBut.of_below hb g none) (.inl rfl)); have n3_ := Aside0.mk (below_step (by repeat (first | (with_reducible first | exact HB.out | apply below_alloc | apply pw_below_drewN | apply below_drew1 | refine below_set ?_ (IsS87.ge HI0.out)) | exact HB.out)) hb); clear HI0; clear HK; clear HB; have HO103 := n0_; have HI0 := n1_; have HK := n2_; have HB := n3_; clear n0_ n1_ n2_ n3_; clear hb ho7; obtain ⟨Ao8, co8, eo8⟩ := Kd.R_slice HO103.out; subst eo8))
  go_loopg [16] k (fun kq v16 w' => ∃ (x5_1 : List Bool) (x16_1 : Int) (x1002_1 : Int), v16 = .int .i64 x16_1 ∧ Aside0 (ice_game_before.l0 kq l1 x5_1 (y101.length : Int) x16_1 s0_0 s0_1 x1002_1 = some (r1, r2)) ∧ Aside0 (kq ≤ k) ∧ Aside0 (Kd.R Kd.bool 4 w' w.heap.size (fun _ => True) (.slice Ao8 y101.length co8) x5_1) ∧ Aside0 (IsS87 w0 w' g s0_0 s0_1 x1002_1) ∧ Aside0 (KeepBut w w' g none) ∧ Aside0 (Below w0.heap.size w0 w'))
  case atStart => exact ⟨(y101), (0), (s0_2), (by first | rfl | (simp; done) | (simp [*]; done)), H', ⟨Nat.le_refl _⟩, ⟨by (with_reducible repeat (first | apply Kd.R_alloc | apply Kd.R_drewN | apply Kd.R_drew)); exact HO103.out⟩, ⟨by repeat (first | (with_reducible first | exact HI0.out | apply IsS87.alloc | apply IsS87.drewN | apply IsS87.drew | apply IsS87.set_2) | exact HI0.out)⟩, ⟨by repeat (first | (with_reducible first | exact HK.out | apply KeepBut.set_ | apply keep_drewN | apply keep_drew | apply keep_alloc) | exact HK.out)⟩, ⟨by repeat (first | (with_reducible first | exact HB.out | apply below_alloc | apply pw_below_drewN | apply below_drew1 | refine below_set ?_ (IsS87.ge HI0.out)) | exact HB.out)⟩⟩
  case round =>
    clear H'
    try clear c1
    try clear p2
    try clear c3
    try clear c3b0
    try clear c3b1
    try clear c4
    try clear c4b0
    try clear c4b1
    try clear c5
    try clear hcz5_0
    try clear hcz5_1
    try clear hcz5_2
    try clear hfz5_2
    obtain ⟨x5_1, x16_1, x1002_1, rfl, HA, HK1, HO_5, HI0, HK, HB⟩ := hrel
    have hl5_1 := (Kd.R_reads' HO_5.out).1
    rw [hl5_1] at HO_5
    (try simp only [hl5_1])
    cases gk with
    | zero => exact absurd HA.out (by simp [ice_game_before.l0])
    | succ k1 =>
      have H := HA.out
      clear HA
      simp only [ice_game_before.l0] at H
      by_cases c9 : x16_1 < (y101.length : Int)
      rotate_left
      · rw [if_neg c9] at H
        have c9b0 : decide (x16_1 < (y101.length : Int)) = false := decide_eq_false c9
        (try (have c9b0h := c9b0; simp only [hl5_1] at c9b0h))
        clear c9
        simp only [Option.some.injEq, Prod.mk.injEq] at H
        obtain ⟨rfl, rfl⟩ := H
        go_wp2
        go_ret
        exact ⟨_, by first | rfl | (simp [errW_none, errW_some] <;> rfl) | (simp [*, errW_none, errW_some] <;> rfl), by (with_reducible repeat (first | apply Kd.R_alloc | apply Kd.R_drewN | apply Kd.R_drew)); exact HO_5.out, by repeat (first | (with_reducible first | exact HI0.out | apply IsS87.alloc | apply IsS87.drewN | apply IsS87.drew | apply IsS87.set_2) | exact HI0.out), by repeat (first | (with_reducible first | exact HB.out | apply below_alloc | apply pw_below_drewN | apply below_drew1 | refine below_set ?_ (IsS87.ge HI0.out)) | exact HB.out), by repeat (first | (with_reducible first | exact HK.out | apply KeepBut.set_ | apply keep_drewN | apply keep_drew | apply keep_alloc) | exact HK.out)⟩
      rw [if_pos c9] at H
      have c9b0 : decide (x16_1 < (y101.length : Int)) = true := decide_eq_true c9
      (try (have c9b0h := c9b0; simp only [hl5_1] at c9b0h))
      clear c9
      have H' := Aside0.mk H
      clear H
      go_wp2
      go_loopg [7] k1 (fun kq v7 w' => ∃ (x5_2 : List Bool) (x7_2 : Int) (x1002_2 : Int), v7 = .int .i64 x7_2 ∧ Aside0 (ice_game_before.l1 kq l1 x5_2 x16_1 x7_2 (y101.length : Int) x16_1 s0_0 s0_1 x1002_2 = some (r1, r2)) ∧ Aside0 (kq ≤ k1) ∧ Aside0 (Kd.R Kd.bool 4 w' w.heap.size (fun _ => True) (.slice Ao8 x5_1.length co8) x5_2) ∧ Aside0 (IsS87 w0 w' g s0_0 s0_1 x1002_2) ∧ Aside0 (KeepBut w w' g none) ∧ Aside0 (Below w0.heap.size w0 w'))
      case atStart => exact ⟨(x5_1), ((-1)), (x1002_1), (by first | rfl | (simp; done) | (simp [*]; done)), H', ⟨Nat.le_refl _⟩, ⟨by (try simp only [hl5_1]); (with_reducible repeat (first | apply Kd.R_alloc | apply Kd.R_drewN | apply Kd.R_drew)); exact HO_5.out⟩, ⟨by repeat (first | (with_reducible first | exact HI0.out | apply IsS87.alloc | apply IsS87.drewN | apply IsS87.drew | apply IsS87.set_2) | exact HI0.out)⟩, ⟨by repeat (first | (with_reducible first | exact HK.out | apply KeepBut.set_ | apply keep_drewN | apply keep_drew | apply keep_alloc) | exact HK.out)⟩, ⟨by repeat (first | (with_reducible first | exact HB.out | apply below_alloc | apply pw_below_drewN | apply below_drew1 | refine below_set ?_ (IsS87.ge HI0.out)) | exact HB.out)⟩⟩
      case round =>
        clear H'
        try clear c1
        try clear p2
        try clear c3
        try clear c3b0
        try clear c3b1
        try clear c4
        try clear c4b0
        try clear c4b1
        try clear c5
        try clear c9
        try clear c9b0
        try clear hcz5_0
        try clear hcz5_1
        try clear hcz5_2
        try clear hfz5_2
        try clear p2
        obtain ⟨x5_2, x7_2, x1002_2, rfl, HA, HK2, HO_5, HI0, HK, HB⟩ := hrel
        have hl5_2 := (Kd.R_reads' HO_5.out).1
        rw [hl5_2] at HO_5
        (try simp only [hl5_2])
        cases gk with
        | zero => exact absurd HA.out (by simp [ice_game_before.l1])
        | succ k2 =>
          have H := HA.out
          clear HA
          simp only [ice_game_before.l1] at H
          by_cases c10 : x7_2 < (s0_0.length : Int)
          rotate_left
          · rw [if_neg c10] at H
            have c10b0 : decide (x7_2 < (s0_0.length : Int)) = false := decide_eq_false c10
            (try (have c10b0h := c10b0; simp only [hl5_1, hl5_2] at c10b0h))
            clear c10
            have H' := Aside0.mk H
            clear H
            obtain ⟨ASz30_0, cSz30_0, ASz30_1, cSz30_1, HGz30, hgz30, ⟨HSz30_0, HSLz30_0⟩, ⟨HSz30_1, HSLz30_1⟩⟩ := HI0.out
            have hcz30_0 := cellS87_0 HGz30
            have hcz30_1 := cellS87_1 HGz30
            have hcz30_2 := cellS87_2 HGz30
            have hfz30_2 := blk_frozen HGz30 2
            clear HGz30 hgz30
            go_wp2
            (try simp only [← hl5_1, ← hl5_2])
            go_roundg k2
            case measure => have := HK1.out; have := HK2.out; omega
            case rel => exact ⟨(x5_2), (wrap64 (x16_1 + 1)), (x1002_2), (by first | rfl | (simp; done) | (simp [*]; done)), H', ⟨by have := HK1.out; have := HK2.out; omega⟩, ⟨by (try simp only [hl5_1]); (try simp only [hl5_2]); (with_reducible repeat (first | apply Kd.R_alloc | apply Kd.R_drewN | apply Kd.R_drew)); exact HO_5.out⟩, ⟨by repeat (first | (with_reducible first | exact HI0.out | apply IsS87.alloc | apply IsS87.drewN | apply IsS87.drew | apply IsS87.set_2) | exact HI0.out)⟩, ⟨by repeat (first | (with_reducible first | exact HK.out | apply KeepBut.set_ | apply keep_drewN | apply keep_drew | apply keep_alloc) | exact HK.out)⟩, ⟨by repeat (first | (with_reducible first | exact HB.out | apply below_alloc | apply pw_below_drewN | apply below_drew1 | refine below_set ?_ (IsS87.ge HI0.out)) | exact HB.out)⟩⟩
          rw [if_pos c10] at H
          have c10b0 : decide (x7_2 < (s0_0.length : Int)) = true := decide_eq_true c10
          (try (have c10b0h := c10b0; simp only [hl5_1, hl5_2] at c10b0h))
          clear c10
          by_cases c11 : 0 ≤ x16_1
          rotate_left
          · rw [if_neg c11] at H
            exact absurd H (by simp)
          rw [if_pos c11] at H
          have c11b0 : decide (0 ≤ x16_1) = true := decide_eq_true c11
          clear c11
          by_cases c12 : x16_1 < (x5_2.length : Int)
          rotate_left
          · rw [if_neg c12] at H
            exact absurd H (by simp)
          rw [if_pos c12] at H
          have c12b0 : decide (x16_1 < (x5_2.length : Int)) = true := decide_eq_true c12
          (try (have c12b0h := c12b0; simp only [hl5_1, hl5_2] at c12b0h))
          clear c12
          obtain ⟨bq13, hbq13⟩ : ∃ b_ : Bool, b_ = (rdOf false x5_2 x16_1) := ⟨_, rfl⟩
          replace H : (if bq13 = true then (ice_game_before.l0 k2 l1 x5_2 (y101.length : Int) (wrap64 (x16_1 + 1)) s0_0 s0_1 x1002_2) else ((ice_game_tonight.f k2 s0_0 s0_1 x1002_2 x16_1 x7_2).bind fun bt105 => (if bt105.1 = (-1) then (ice_game_before.l1 k2 l1 (x5_2.set (x16_1 : Int).toNat false) x16_1 (wrap64 (x7_2 + 1)) (y101.length : Int) x16_1 s0_0 s0_1 bt105.2) else (if 0 ≤ bt105.1 then (if bt105.1 < (l1.length : Int) then (ice_game_before.l1 k2 l1 (x5_2.set (x16_1 : Int).toNat (rdOf false l1 bt105.1)) x16_1 (wrap64 (x7_2 + 1)) (y101.length : Int) x16_1 s0_0 s0_1 bt105.2) else (none)) else (none))))) = some (r1, r2) := by rw [← hbq13] at H; exact H
          have Nbq13 := Aside0.mk hbq13
          clear hbq13
          by_cases c14 : bq13 = true
          · subst c14
            have H1 : (ice_game_before.l0 k2 l1 x5_2 (y101.length : Int) (wrap64 (x16_1 + 1)) s0_0 s0_1 x1002_2) = some (r1, r2) := by rw [if_pos rfl] at H; exact H
            clear H
            have H := H1
            clear H1
            have H' := Aside0.mk H
            clear H
            obtain ⟨ASz15_0, cSz15_0, ASz15_1, cSz15_1, HGz15, hgz15, ⟨HSz15_0, HSLz15_0⟩, ⟨HSz15_1, HSLz15_1⟩⟩ := HI0.out
            have hcz15_0 := cellS87_0 HGz15
            have hcz15_1 := cellS87_1 HGz15
            have hcz15_2 := cellS87_2 HGz15
            have hfz15_2 := blk_frozen HGz15 2
            clear HGz15 hgz15
            have p104 : 0 ≤ (x16_1 : Int) := of_decide_eq_true (by first | (with_reducible assumption) | assumption)
            have q104 : x16_1 < (x5_2.length : Int) := of_decide_eq_true (by first | (with_reducible assumption) | assumption)
            obtain ⟨ad104, e104, hx104_0⟩ := Kd.at_bool (Kd.R_reads' HO_5.out).2.2 x16_1 p104 q104
            (try rw [← Nbq13.out] at hx104_0)
            cases e104
            replace p104 := eq_true p104
            replace q104 := eq_true q104
            go_wp2
            (try simp only [← hl5_1, ← hl5_2])
            go_roundg k2
            case measure => have := HK1.out; have := HK2.out; omega
            case rel => exact ⟨(x5_2), (wrap64 (x16_1 + 1)), (x1002_2), (by first | rfl | (simp; done) | (simp [*]; done)), H', ⟨by have := HK1.out; have := HK2.out; omega⟩, ⟨by (try simp only [hl5_1]); (try simp only [hl5_2]); (with_reducible repeat (first | apply Kd.R_alloc | apply Kd.R_drewN | apply Kd.R_drew)); exact HO_5.out⟩, ⟨by repeat (first | (with_reducible first | exact HI0.out | apply IsS87.alloc | apply IsS87.drewN | apply IsS87.drew | apply IsS87.set_2) | exact HI0.out)⟩, ⟨by repeat (first | (with_reducible first | exact HK.out | apply KeepBut.set_ | apply keep_drewN | apply keep_drew | apply keep_alloc) | exact HK.out)⟩, ⟨by repeat (first | (with_reducible first | exact HB.out | apply below_alloc | apply pw_below_drewN | apply below_drew1 | refine below_set ?_ (IsS87.ge HI0.out)) | exact HB.out)⟩⟩
          replace c14 := Bool.eq_false_iff.mpr c14
          subst c14
          have H1 : ((ice_game_tonight.f k2 s0_0 s0_1 x1002_2 x16_1 x7_2).bind fun bt105 => (if bt105.1 = (-1) then (ice_game_before.l1 k2 l1 (x5_2.set (x16_1 : Int).toNat false) x16_1 (wrap64 (x7_2 + 1)) (y101.length : Int) x16_1 s0_0 s0_1 bt105.2) else (if 0 ≤ bt105.1 then (if bt105.1 < (l1.length : Int) then (ice_game_before.l1 k2 l1 (x5_2.set (x16_1 : Int).toNat (rdOf false l1 bt105.1)) x16_1 (wrap64 (x7_2 + 1)) (y101.length : Int) x16_1 s0_0 s0_1 bt105.2) else (none)) else (none)))) = some (r1, r2) := by rw [if_neg (show ¬ (false = true) by decide)] at H; exact H
          clear H
          have H := H1
          clear H1
          replace H := Option.bind_eq_some_iff.mp H
          obtain ⟨⟨t105, t106⟩, A160, H⟩ := H
          replace H : (if t105 = (-1) then (ice_game_before.l1 k2 l1 (x5_2.set (x16_1 : Int).toNat false) x16_1 (wrap64 (x7_2 + 1)) (y101.length : Int) x16_1 s0_0 s0_1 t106) else (if 0 ≤ t105 then (if t105 < (l1.length : Int) then (ice_game_before.l1 k2 l1 (x5_2.set (x16_1 : Int).toNat (rdOf false l1 t105)) x16_1 (wrap64 (x7_2 + 1)) (y101.length : Int) x16_1 s0_0 s0_1 t106) else (none)) else (none))) = some (r1, r2) := H
          have A16 := Aside0.mk A160
          clear A160
          by_cases c17 : t105 = (-1)
          · rw [if_pos c17] at H
            have c17b0 : (t105 == (-1)) = true := beq_iff_eq.mpr c17
            have c17b1 : (t105 != (-1)) = false := bne_eq_false_iff_eq.mpr c17
            clear c17
            obtain ⟨y107, hy107⟩ : ∃ y_ : List Bool, y_ = (x5_2.set (x16_1 : Int).toNat false) := ⟨_, rfl⟩
            replace H : (ice_game_before.l1 k2 l1 y107 x16_1 (wrap64 (x7_2 + 1)) (y101.length : Int) x16_1 s0_0 s0_1 t106) = some (r1, r2) := by first | (rw [hy107]; with_reducible exact H) | (have H2_ := (Option.bind_some _ _).symm.trans H; rw [hy107]; with_reducible exact H2_) | (have H2_ := (Option.bind_some _ _).symm.trans H; with_reducible exact H2_) | with_reducible exact H | (rw [hy107]; exact H) | exact H
            have Ny107 := Aside0.mk hy107
            clear hy107
            have H' := Aside0.mk H
            clear H
            obtain ⟨ASz19_0, cSz19_0, ASz19_1, cSz19_1, HGz19, hgz19, ⟨HSz19_0, HSLz19_0⟩, ⟨HSz19_1, HSLz19_1⟩⟩ := HI0.out
            have hcz19_0 := cellS87_0 HGz19
            have hcz19_1 := cellS87_1 HGz19
            have hcz19_2 := cellS87_2 HGz19
            have hfz19_2 := blk_frozen HGz19 2
            clear HGz19 hgz19
            have p104 : 0 ≤ (x16_1 : Int) := of_decide_eq_true (by first | (with_reducible assumption) | assumption)
            have q104 : x16_1 < (x5_2.length : Int) := of_decide_eq_true (by first | (with_reducible assumption) | assumption)
            obtain ⟨ad104, e104, hx104_0⟩ := Kd.at_bool (Kd.R_reads' HO_5.out).2.2 x16_1 p104 q104
            (try rw [← Nbq13.out] at hx104_0)
            cases e104
            replace p104 := eq_true p104
            replace q104 := eq_true q104
            go_wp2_with (first | ((with_reducible refine gate_callee (f := 61) rfl ?_); refine goesL_ (some 38) rfl rfl Try.func61 (by kernel_rfl) rfl #[.pointer (some ⟨g, 0, none⟩), .int .i64 x16_1, .int .i64 x7_2] rfl (by (try simp only [List.map_toArray, List.map_cons, List.map_nil]); first | done | rfl | (simp only [List.length_drop, List.length_take]; rfl)) ?_; (with_reducible refine (ice_game_tonight.calls k2 g s0_0 s0_1 x1002_2 x16_1 x7_2 t105 t106 w0 _ ?side1 ?side2 A16.out).mono ?_); (case side1 => repeat (first | (with_reducible first | exact HI0.out | apply IsS87.alloc | apply IsS87.drewN | apply IsS87.drew | apply IsS87.set_2) | exact HI0.out)); (case side2 => repeat (first | (with_reducible first | exact HB.out | apply below_alloc | apply pw_below_drewN | apply below_drew1 | refine below_set ?_ (IsS87.ge HI0.out)) | exact HB.out)); rintro e w20 ⟨rfl, hi, hb, hk⟩; refine ⟨_, rfl, ?_⟩; have n0_ := Aside0.mk (Kd.R_mono (Kd.R_keep (IsS87.apart (show IsS87 w0 _ g s0_0 s0_1 x1002_2 from by repeat (first | (with_reducible first | exact HI0.out | apply IsS87.alloc | apply IsS87.drewN | apply IsS87.drew | apply IsS87.set_2) | exact HI0.out)) (by (with_reducible repeat (first | apply Kd.R_alloc | apply Kd.R_drewN | apply Kd.R_drew)); exact HO_5.out) (by decide)) hk (fun _ h => h.2)) (fun _ h => h.1)); have n1_ := Aside0.mk (KeepBut.trans (by repeat (first | (with_reducible first | exact HK.out | apply KeepBut.set_ | apply keep_drewN | apply keep_drew | apply keep_alloc) | exact HK.out)) hk (.inl rfl)); have n2_ := Aside0.mk (hb); have n3_ := Aside0.mk (hi); clear HO_5; clear HK; clear HB; clear HI0; have HO_5 := n0_; have HK := n1_; have HB := n2_; have HI0 := n3_; clear n0_ n1_ n2_ n3_; (try clear hb); (try clear hb2); (try clear hk); (try clear hi); have p18 : 0 ≤ (x16_1 : Int) := of_decide_eq_true (by first | (with_reducible assumption) | assumption); have q18 : (x16_1 : Int) < ((x5_2.length : Int) : Int) := of_decide_eq_true (by first | (with_reducible assumption) | assumption); obtain ⟨go18, co18, eo18, gb18, gl18, cl18, HG18⟩ := Kd.R_form HO_5.out (by omega); (first | cases eo18 | (injection eo18 with ea_ en_ ec_; (first | subst ea_ | (injection ea_ with ea_; subst ea_)); subst ec_; clear en_)); have GB18 := Aside0.mk gb18; have GG18 := Aside0.mk HG18; clear gb18 gl18 HG18; (first | simp only [add_plain] at hx104_0 | skip); obtain ⟨hx18_0, hf18_0⟩ := Kd.R_celln false HO_5.out (x16_1 : Int) p18 q18; replace p18 := eq_true p18; replace q18 := eq_true q18; obtain ⟨hy21_, hz21_⟩ := Kd.R_celln false HO_5.out (x16_1 : Int) (of_decide_eq_true (by first | (with_reducible assumption) | assumption)) (of_decide_eq_true (by first | (with_reducible assumption) | assumption)); have HP21 := Kd.R_putg HO_5.out (x16_1 : Int) false) | ((with_reducible refine gate_store (t := 4) (p := 49) rfl ?_); refine store_event (t := 4) (p := 49) (v := ?vo_w22) (w1 := (w20.setCell ⟨go18, (x16_1 : Int).toNat, none⟩ (.bool false))) ?hg ?ho ?hn ?hr ?_; (case ho => rfl); (case hg => rfl); (case hn => rfl); (case hr => first | (go_simp; done) | (go_simp; rfl)); intro w22 hw; have hg : w20.grownBy w22 (some go18) := (by rw [hw]; exact HP21.2); have hp_ : Kd.R Kd.bool 4 w22 w.heap.size (fun _ => True) (.slice (some ⟨go18, 0, none⟩) x5_2.length co8) y107 := (by rw [hw, Ny107.out]; exact HP21.1); clear HP21; have n0_ := Aside0.mk (hp_); have n1_ := Aside0.mk (IsS87.grown (by repeat (first | (with_reducible first | exact HI0.out | apply IsS87.alloc | apply IsS87.drewN | apply IsS87.drew | apply IsS87.set_2) | exact HI0.out)) hg (IsS87.own_ne HI0.out HO_5.out (by decide))); have n2_ := Aside0.mk ((by rw [hw]; exact below_set (HB.out) (Nat.le_trans HL.out GB18.out) : Below w0.heap.size w0 w22)); have n3_ := Aside0.mk (KeepBut.trans (by repeat (first | (with_reducible first | exact HK.out | apply KeepBut.set_ | apply keep_drewN | apply keep_drew | apply keep_alloc) | exact HK.out)) (KeepBut.of_grown hg g) (Kd.R_base2 HO_5.out)); clear HO_5; clear HI0; clear HB; clear HK; have HO_5 := n0_; have HI0 := n1_; have HB := n2_; have HK := n3_; clear n0_ n1_ n2_ n3_; clear hg hw hp_))
            (try simp only [← hl5_2])
            go_roundg k2
            case measure => have := HK1.out; have := HK2.out; omega
            case rel => exact ⟨(y107), (wrap64 (x7_2 + 1)), (t106), (by first | rfl | (simp; done) | (simp [*]; done)), H', ⟨by have := HK1.out; have := HK2.out; omega⟩, ⟨by (try simp only [hl5_1]); (try simp only [hl5_2]); (with_reducible repeat (first | apply Kd.R_alloc | apply Kd.R_drewN | apply Kd.R_drew)); exact HO_5.out⟩, ⟨by repeat (first | (with_reducible first | exact HI0.out | apply IsS87.alloc | apply IsS87.drewN | apply IsS87.drew | apply IsS87.set_2) | exact HI0.out)⟩, ⟨by repeat (first | (with_reducible first | exact HK.out | apply KeepBut.set_ | apply keep_drewN | apply keep_drew | apply keep_alloc) | exact HK.out)⟩, ⟨by repeat (first | (with_reducible first | exact HB.out | apply below_alloc | apply pw_below_drewN | apply below_drew1 | refine below_set ?_ (IsS87.ge HI0.out)) | exact HB.out)⟩⟩
          rw [if_neg c17] at H
          have c17b0 : (t105 == (-1)) = false := beq_eq_false_iff_ne.mpr c17
          have c17b1 : (t105 != (-1)) = true := bne_iff_ne.mpr c17
          by_cases c23 : 0 ≤ t105
          rotate_left
          · rw [if_neg c23] at H
            exact absurd H (by simp)
          rw [if_pos c23] at H
          have c23b0 : decide (0 ≤ t105) = true := decide_eq_true c23
          clear c23
          by_cases c24 : t105 < (l1.length : Int)
          rotate_left
          · rw [if_neg c24] at H
            exact absurd H (by simp)
          rw [if_pos c24] at H
          have c24b0 : decide (t105 < (l1.length : Int)) = true := decide_eq_true c24
          (try (have c24b0h := c24b0; simp only [hl5_1, hl5_2] at c24b0h))
          clear c24
          obtain ⟨y109, hy109⟩ : ∃ y_ : List Bool, y_ = (x5_2.set (x16_1 : Int).toNat (rdOf false l1 t105)) := ⟨_, rfl⟩
          replace H : (ice_game_before.l1 k2 l1 y109 x16_1 (wrap64 (x7_2 + 1)) (y101.length : Int) x16_1 s0_0 s0_1 t106) = some (r1, r2) := by first | (rw [hy109]; with_reducible exact H) | (have H2_ := (Option.bind_some _ _).symm.trans H; rw [hy109]; with_reducible exact H2_) | (have H2_ := (Option.bind_some _ _).symm.trans H; with_reducible exact H2_) | with_reducible exact H | (rw [hy109]; exact H) | exact H
          have Ny109 := Aside0.mk hy109
          clear hy109
          have H' := Aside0.mk H
          clear H
          obtain ⟨ASz26_0, cSz26_0, ASz26_1, cSz26_1, HGz26, hgz26, ⟨HSz26_0, HSLz26_0⟩, ⟨HSz26_1, HSLz26_1⟩⟩ := HI0.out
          have hcz26_0 := cellS87_0 HGz26
          have hcz26_1 := cellS87_1 HGz26
          have hcz26_2 := cellS87_2 HGz26
          have hfz26_2 := blk_frozen HGz26 2
          clear HGz26 hgz26
          have p104 : 0 ≤ (x16_1 : Int) := of_decide_eq_true (by first | (with_reducible assumption) | assumption)
          have q104 : x16_1 < (x5_2.length : Int) := of_decide_eq_true (by first | (with_reducible assumption) | assumption)
          obtain ⟨ad104, e104, hx104_0⟩ := Kd.at_bool (Kd.R_reads' HO_5.out).2.2 x16_1 p104 q104
          (try rw [← Nbq13.out] at hx104_0)
          cases e104
          replace p104 := eq_true p104
          replace q104 := eq_true q104
          go_wp2_with (first | ((with_reducible refine gate_callee (f := 61) rfl ?_); refine goesL_ (some 38) rfl rfl Try.func61 (by kernel_rfl) rfl #[.pointer (some ⟨g, 0, none⟩), .int .i64 x16_1, .int .i64 x7_2] rfl (by (try simp only [List.map_toArray, List.map_cons, List.map_nil]); first | done | rfl | (simp only [List.length_drop, List.length_take]; rfl)) ?_; (with_reducible refine (ice_game_tonight.calls k2 g s0_0 s0_1 x1002_2 x16_1 x7_2 t105 t106 w0 _ ?side1 ?side2 A16.out).mono ?_); (case side1 => repeat (first | (with_reducible first | exact HI0.out | apply IsS87.alloc | apply IsS87.drewN | apply IsS87.drew | apply IsS87.set_2) | exact HI0.out)); (case side2 => repeat (first | (with_reducible first | exact HB.out | apply below_alloc | apply pw_below_drewN | apply below_drew1 | refine below_set ?_ (IsS87.ge HI0.out)) | exact HB.out)); rintro e w27 ⟨rfl, hi, hb, hk⟩; refine ⟨_, rfl, ?_⟩; have n0_ := Aside0.mk (Kd.R_mono (Kd.R_keep (IsS87.apart (show IsS87 w0 _ g s0_0 s0_1 x1002_2 from by repeat (first | (with_reducible first | exact HI0.out | apply IsS87.alloc | apply IsS87.drewN | apply IsS87.drew | apply IsS87.set_2) | exact HI0.out)) (by (with_reducible repeat (first | apply Kd.R_alloc | apply Kd.R_drewN | apply Kd.R_drew)); exact HO_5.out) (by decide)) hk (fun _ h => h.2)) (fun _ h => h.1)); have n1_ := Aside0.mk (KeepBut.trans (by repeat (first | (with_reducible first | exact HK.out | apply KeepBut.set_ | apply keep_drewN | apply keep_drew | apply keep_alloc) | exact HK.out)) hk (.inl rfl)); have n2_ := Aside0.mk (hb); have n3_ := Aside0.mk (hi); clear HO_5; clear HK; clear HB; clear HI0; have HO_5 := n0_; have HK := n1_; have HB := n2_; have HI0 := n3_; clear n0_ n1_ n2_ n3_; (try clear hb); (try clear hb2); (try clear hk); (try clear hi); have p108 : 0 ≤ (t105 : Int) := of_decide_eq_true (by first | (with_reducible assumption) | assumption); have q108 : t105 < (l1.length : Int) := of_decide_eq_true (by first | (with_reducible assumption) | assumption); obtain ⟨ad108, e108, hx108_0⟩ := Kd.at_bool HR1.out t105 p108 q108; (try rw [← Nbq13.out] at hx108_0); cases e108; replace hx108_0 := keep_cell HK.out hx108_0 (by first | (rw [add_block]; exact hf1 _ rfl (by omega)) | exact hf1 _ rfl (by omega) | exact hf1 ad108 rfl (by omega)); replace p108 := eq_true p108; replace q108 := eq_true q108; have p25 : 0 ≤ (x16_1 : Int) := of_decide_eq_true (by first | (with_reducible assumption) | assumption); have q25 : (x16_1 : Int) < ((x5_2.length : Int) : Int) := of_decide_eq_true (by first | (with_reducible assumption) | assumption); obtain ⟨go25, co25, eo25, gb25, gl25, cl25, HG25⟩ := Kd.R_form HO_5.out (by omega); (first | cases eo25 | (injection eo25 with ea_ en_ ec_; (first | subst ea_ | (injection ea_ with ea_; subst ea_)); subst ec_; clear en_)); have GB25 := Aside0.mk gb25; have GG25 := Aside0.mk HG25; clear gb25 gl25 HG25; (first | simp only [add_plain] at hx104_0 | skip); obtain ⟨hx25_0, hf25_0⟩ := Kd.R_celln false HO_5.out (x16_1 : Int) p25 q25; replace p25 := eq_true p25; replace q25 := eq_true q25; obtain ⟨hy28_, hz28_⟩ := Kd.R_celln false HO_5.out (x16_1 : Int) (of_decide_eq_true (by first | (with_reducible assumption) | assumption)) (of_decide_eq_true (by first | (with_reducible assumption) | assumption)); have HP28 := Kd.R_putg HO_5.out (x16_1 : Int) (rdOf false l1 t105)) | ((with_reducible refine gate_store (t := 4) (p := 49) rfl ?_); refine store_event (t := 4) (p := 49) (v := ?vo_w29) (w1 := (w27.setCell ⟨go25, (x16_1 : Int).toNat, none⟩ (.bool (rdOf false l1 t105)))) ?hg ?ho ?hn ?hr ?_; (case ho => rfl); (case hg => rfl); (case hn => rfl); (case hr => first | (go_simp; done) | (go_simp; rfl)); intro w29 hw; have hg : w27.grownBy w29 (some go25) := (by rw [hw]; exact HP28.2); have hp_ : Kd.R Kd.bool 4 w29 w.heap.size (fun _ => True) (.slice (some ⟨go25, 0, none⟩) x5_2.length co8) y109 := (by rw [hw, Ny109.out]; exact HP28.1); clear HP28; have n0_ := Aside0.mk (hp_); have n1_ := Aside0.mk (IsS87.grown (by repeat (first | (with_reducible first | exact HI0.out | apply IsS87.alloc | apply IsS87.drewN | apply IsS87.drew | apply IsS87.set_2) | exact HI0.out)) hg (IsS87.own_ne HI0.out HO_5.out (by decide))); have n2_ := Aside0.mk ((by rw [hw]; exact below_set (HB.out) (Nat.le_trans HL.out GB25.out) : Below w0.heap.size w0 w29)); have n3_ := Aside0.mk (KeepBut.trans (by repeat (first | (with_reducible first | exact HK.out | apply KeepBut.set_ | apply keep_drewN | apply keep_drew | apply keep_alloc) | exact HK.out)) (KeepBut.of_grown hg g) (Kd.R_base2 HO_5.out)); clear HO_5; clear HI0; clear HB; clear HK; have HO_5 := n0_; have HI0 := n1_; have HB := n2_; have HK := n3_; clear n0_ n1_ n2_ n3_; clear hg hw hp_))
          (try simp only [← hl5_2])
          go_roundg k2
          case measure => have := HK1.out; have := HK2.out; omega
          case rel => exact ⟨(y109), (wrap64 (x7_2 + 1)), (t106), (by first | rfl | (simp; done) | (simp [*]; done)), H', ⟨by have := HK1.out; have := HK2.out; omega⟩, ⟨by (try simp only [hl5_1]); (try simp only [hl5_2]); (with_reducible repeat (first | apply Kd.R_alloc | apply Kd.R_drewN | apply Kd.R_drew)); exact HO_5.out⟩, ⟨by repeat (first | (with_reducible first | exact HI0.out | apply IsS87.alloc | apply IsS87.drewN | apply IsS87.drew | apply IsS87.set_2) | exact HI0.out)⟩, ⟨by repeat (first | (with_reducible first | exact HK.out | apply KeepBut.set_ | apply keep_drewN | apply keep_drew | apply keep_alloc) | exact HK.out)⟩, ⟨by repeat (first | (with_reducible first | exact HB.out | apply below_alloc | apply pw_below_drewN | apply below_drew1 | refine below_set ?_ (IsS87.ge HI0.out)) | exact HB.out)⟩⟩
end Go.Proofs.Ythbpibdfookbmaa.G
