-- Written by this session's driver (wip/tools/printmore.py) over the kit's print, with hand-written parts.
import Derived.Test.YtiebfmenkpodeaaGBase
import Derived.Test.YtiebfmenkpodeaaGF58
import Derived.Test.YtiebfmenkpodeaaGF75
import Derived.Test.YtiebfmenkpodeaaGF59
namespace Go.Proofs.Ytiebfmenkpodeaa.G
open Go.RowKit Go.Proofs.YtiebfmenkpodeaaW.PrintWords Go.Proofs.YtiebfmenkpodeaaW.PrintLast Go.Proofs.YtiebfmenkpodeaaW.PrintMore
attribute [local go_sem] max2_int min2_int max_two min_two max_three min_three max_four min_four   -- for this text's walks alone
set_option linter.unusedVariables false
set_option linter.unusedSimpArgs false

/-! ### pull_layout_anchors: function 64 -/
mutual
def pull_layout_anchors.l0 : Nat → List Int → List Int → Int → Int → List Int → Int → Int → Option (List Int × Int × Int × Int)
  | 0, _, _, _, _, _, _, _ => none
  | k + 1, x4, x5, x25, x26, x1000, x1001, x1002 => if x26 < x25 then (pull_layout_anchors.l1 k x4 x5 x26 x25 x26 x26 0 x1000 x1001 x1002) else (pull_layout_anchors.l2 k ([] : List Int) x4 x5 (x1000.length : Int) 0 x1000 x1001 x1002)
def pull_layout_anchors.l1 : Nat → List Int → List Int → Int → Int → Int → Int → Int → List Int → Int → Int → Option (List Int × Int × Int × Int)
  | 0, _, _, _, _, _, _, _, _, _, _ => none
  | k + 1, x4, x5, x6, x25, x26, x29, x30, x1000, x1001, x1002 => if x30 < x29 then ((pull_layout_length.f x1000 x1001 x1002 x30 x6).bind fun bt110 => (if bt110.2.1 = true then (if 0 ≤ x6 then (if x6 < (x5.length : Int) then (if 0 ≤ x30 then (if x30 < (x5.length : Int) then (pull_layout_anchors.l1 k x4 (x5.set (x6 : Int).toNat (wrap64 ((rd x5 x6) + (rd x5 x30)))) x6 x25 x26 x29 (wrap64 (x30 + 1)) x1000 bt110.2.2.1 bt110.2.2.2) else (none)) else (none)) else (none)) else (none)) else (pull_layout_anchors.l1 k x4 x5 x6 x25 x26 x29 (wrap64 (x30 + 1)) x1000 bt110.2.2.1 bt110.2.2.2))) else (pull_layout_anchors.l0 k x4 x5 x25 (wrap64 (x26 + 1)) x1000 x1001 x1002)
def pull_layout_anchors.l2 : Nat → List Int → List Int → List Int → Int → Int → List Int → Int → Int → Option (List Int × Int × Int × Int)
  | 0, _, _, _, _, _, _, _, _ => none
  | k + 1, x2, x4, x5, x57, x58, x1000, x1001, x1002 => if x58 < x57 then (if 0 ≤ x58 then (if x58 < (x5.length : Int) then (if x58 < (x4.length : Int) then (if x2.length < 17592186044416 then (pull_layout_anchors.l2 k (x2 ++ [wrap64 ((rd x5 x58) * (rd x4 x58))]) x4 x5 x57 (wrap64 (x58 + 1)) x1000 x1001 x1002) else (none)) else (none)) else (none)) else (none)) else (if 0 < (x4.length : Int) then (some (x2, rd x4 0, x1001, x1002)) else (none))
end
def pull_layout_anchors.f (k : Nat) (s0_0 : List Int) (s0_1 : Int) (s0_2 : Int) : Option (List Int × Int × Int × Int) := (pull_layout_numbers.f k s0_0 s0_1 s0_2).bind fun bt101 => (if 0 ≤ (s0_0.length : Int) then (if ((s0_0.length : Int) : Int).toNat ≤ 35184372088832 then ((some (List.replicate ((s0_0.length : Int) : Int).toNat 0 : List Int)).bind fun y106 => (if 0 < (y106.length : Int) then (pull_layout_anchors.l0 k bt101.1 (y106.set (0 : Int).toNat 1) (s0_0.length : Int) 0 s0_0 bt101.2.1 bt101.2.2) else (none))) else (none)) else (none))
theorem pull_layout_anchors.mono_l : ∀ k, (∀ y0 y1 y2 y3 y4 y5 y6, LeO (pull_layout_anchors.l0 k y0 y1 y2 y3 y4 y5 y6) (pull_layout_anchors.l0 (k + 1) y0 y1 y2 y3 y4 y5 y6)) ∧ (∀ y0 y1 y2 y3 y4 y5 y6 y7 y8 y9, LeO (pull_layout_anchors.l1 k y0 y1 y2 y3 y4 y5 y6 y7 y8 y9) (pull_layout_anchors.l1 (k + 1) y0 y1 y2 y3 y4 y5 y6 y7 y8 y9)) ∧ (∀ y0 y1 y2 y3 y4 y5 y6 y7, LeO (pull_layout_anchors.l2 k y0 y1 y2 y3 y4 y5 y6 y7) (pull_layout_anchors.l2 (k + 1) y0 y1 y2 y3 y4 y5 y6 y7))
  | 0 => ⟨fun _ _ _ _ _ _ _ r h => by simp [pull_layout_anchors.l0] at h, fun _ _ _ _ _ _ _ _ _ _ r h => by simp [pull_layout_anchors.l1] at h, fun _ _ _ _ _ _ _ _ r h => by simp [pull_layout_anchors.l2] at h⟩
  | k + 1 => by
    obtain ⟨ih0, ih1, ih2⟩ := pull_layout_anchors.mono_l k
    refine ⟨?_, ?_, ?_⟩
    · intro y0 y1 y2 y3 y4 y5 y6
      unfold pull_layout_anchors.l0
      repeat' first
      | (with_reducible exact ih0 _ _ _ _ _ _ _)
      | (with_reducible exact ih1 _ _ _ _ _ _ _ _ _ _)
      | (with_reducible exact ih2 _ _ _ _ _ _ _ _)
      | (with_reducible exact pull_layout_numbers.mono _ _ _ _)
      | (with_reducible exact LeO.refl _)
      | (with_reducible exact LeO.none _)
      | (with_reducible refine LeO.ite ?_ ?_)
      | (with_reducible refine LeO.bind ?_ (fun _ => ?_))
      | exact ih0 _ _ _ _ _ _ _
      | exact ih1 _ _ _ _ _ _ _ _ _ _
      | exact ih2 _ _ _ _ _ _ _ _
      | exact pull_layout_numbers.mono _ _ _ _
      | exact LeO.none _
      | refine LeO.ite ?_ ?_
      | refine LeO.bind ?_ (fun _ => ?_)
    · intro y0 y1 y2 y3 y4 y5 y6 y7 y8 y9
      unfold pull_layout_anchors.l1
      repeat' first
      | (with_reducible exact ih0 _ _ _ _ _ _ _)
      | (with_reducible exact ih1 _ _ _ _ _ _ _ _ _ _)
      | (with_reducible exact ih2 _ _ _ _ _ _ _ _)
      | (with_reducible exact pull_layout_numbers.mono _ _ _ _)
      | (with_reducible exact LeO.refl _)
      | (with_reducible exact LeO.none _)
      | (with_reducible refine LeO.ite ?_ ?_)
      | (with_reducible refine LeO.bind ?_ (fun _ => ?_))
      | exact ih0 _ _ _ _ _ _ _
      | exact ih1 _ _ _ _ _ _ _ _ _ _
      | exact ih2 _ _ _ _ _ _ _ _
      | exact pull_layout_numbers.mono _ _ _ _
      | exact LeO.none _
      | refine LeO.ite ?_ ?_
      | refine LeO.bind ?_ (fun _ => ?_)
    · intro y0 y1 y2 y3 y4 y5 y6 y7
      unfold pull_layout_anchors.l2
      repeat' first
      | (with_reducible exact ih0 _ _ _ _ _ _ _)
      | (with_reducible exact ih1 _ _ _ _ _ _ _ _ _ _)
      | (with_reducible exact ih2 _ _ _ _ _ _ _ _)
      | (with_reducible exact pull_layout_numbers.mono _ _ _ _)
      | (with_reducible exact LeO.refl _)
      | (with_reducible exact LeO.none _)
      | (with_reducible refine LeO.ite ?_ ?_)
      | (with_reducible refine LeO.bind ?_ (fun _ => ?_))
      | exact ih0 _ _ _ _ _ _ _
      | exact ih1 _ _ _ _ _ _ _ _ _ _
      | exact ih2 _ _ _ _ _ _ _ _
      | exact pull_layout_numbers.mono _ _ _ _
      | exact LeO.none _
      | refine LeO.ite ?_ ?_
      | refine LeO.bind ?_ (fun _ => ?_)
theorem pull_layout_anchors.mono : ∀ a0 a1 a2 k, LeO (pull_layout_anchors.f k a0 a1 a2) (pull_layout_anchors.f (k + 1) a0 a1 a2) := by
  intro a0 a1 a2 k
  obtain ⟨ih0, ih1, ih2⟩ := pull_layout_anchors.mono_l k
  unfold pull_layout_anchors.f
  repeat' first
      | (with_reducible exact ih0 _ _ _ _ _ _ _)
      | (with_reducible exact ih1 _ _ _ _ _ _ _ _ _ _)
      | (with_reducible exact ih2 _ _ _ _ _ _ _ _)
      | (with_reducible exact pull_layout_numbers.mono _ _ _ _)
      | (with_reducible exact LeO.refl _)
      | (with_reducible exact LeO.none _)
      | (with_reducible refine LeO.ite ?_ ?_)
      | (with_reducible refine LeO.bind ?_ (fun _ => ?_))
      | exact ih0 _ _ _ _ _ _ _
      | exact ih1 _ _ _ _ _ _ _ _ _ _
      | exact ih2 _ _ _ _ _ _ _ _
      | exact pull_layout_numbers.mono _ _ _ _
      | exact LeO.none _
      | refine LeO.ite ?_ ?_
      | refine LeO.bind ?_ (fun _ => ?_)
def pull_layout_anchors.T12 : Bool × List (List Nat × List Nat) := (true, [([], []), ([], []), ([0, 1], [0, 1]), ([2], [2]), ([], []), ([], []), ([4, 5], [4, 5]), ([6], [6]), ([3, 7], [3, 7]), ([0, 1, 0, 1, 2, 3, 4, 5, 6, 7, 8], [0, 1]), ([9, 8, 0, 1, 2, 3, 4, 5, 6, 7, 8], [8, 9])])
def pull_layout_anchors.B12 : List Nat := [0, 0, 3, 7, 0, 0, 48, 112, 255, 511, 1023]
theorem pull_layout_anchors.tab12 : rtab .any (opsOf Try.f64 12) = pull_layout_anchors.T12 := by kernel_rfl
theorem pull_layout_anchors.bits12 : waitsOk pull_layout_anchors.T12.2 pull_layout_anchors.B12 = true := by kernel_rfl
def pull_layout_anchors.T18 : Bool × List (List Nat × List Nat) := (true, [([], []), ([], []), ([], []), ([1, 2], [1, 2]), ([3], [3]), ([], []), ([], []), ([5, 6], [5, 6]), ([7], [7]), ([4, 8], [4, 8]), ([9], [9]), ([0, 10], [0, 10]), ([11, 11, 0, 1, 2, 3, 4, 5, 6, 7, 8, 9, 10, 11], [0, 11])])
def pull_layout_anchors.B18 : List Nat := [0, 0, 0, 6, 14, 0, 0, 96, 224, 510, 1022, 2047, 4095]
theorem pull_layout_anchors.tab18 : rtab .any (opsOf Try.f64 18) = pull_layout_anchors.T18 := by kernel_rfl
theorem pull_layout_anchors.bits18 : waitsOk pull_layout_anchors.T18.2 pull_layout_anchors.B18 = true := by kernel_rfl
set_option maxHeartbeats 8000000 in
set_option maxRecDepth 100000 in
theorem pull_layout_anchors.calls (k : Nat) (g : Nat) (s0_0 : List Int) (s0_1 : Int) (s0_2 : Int) (r1 : List Int) (r2 : Int) (r3 : Int) (r4 : Int) (w0 w : World) (hI : IsS84 w0 w g s0_0 s0_1 s0_2) (hB : Below w0.heap.size w0 w) (h : pull_layout_anchors.f k s0_0 s0_1 s0_2 = some (r1, r2, r3, r4)) :
    Calls Try.prog 64 #[.pointer (some ⟨g, 0, none⟩)] w fun e w' => ∃ v0_ : Value, e = .returned (.tuple #[v0_, .int .i64 r2]) ∧ Kd.R (Kd.int .i64) 3 w' w.heap.size (fun _ => True) v0_ r1 ∧ IsS84 w0 w' g s0_0 r3 r4 ∧ Below w0.heap.size w0 w' ∧ KeepBut w w' g none := by
  have HI0 := Aside0.mk hI
  have HK := Aside0.mk (KeepBut.refl w g none)
  have HL := Aside0.mk hB.size
  clear hI
  have HW0 := Aside0.mk hB.size
  have HB := Aside0.mk hB
  clear hB
  have H : ((pull_layout_numbers.f k s0_0 s0_1 s0_2).bind fun bt101 => (if 0 ≤ (s0_0.length : Int) then (if ((s0_0.length : Int) : Int).toNat ≤ 35184372088832 then ((some (List.replicate ((s0_0.length : Int) : Int).toNat 0 : List Int)).bind fun y106 => (if 0 < (y106.length : Int) then (pull_layout_anchors.l0 k bt101.1 (y106.set (0 : Int).toNat 1) (s0_0.length : Int) 0 s0_0 bt101.2.1 bt101.2.2) else (none))) else (none)) else (none))) = some (r1, r2, r3, r4) := h
  clear h
  replace H := Option.bind_eq_some_iff.mp H
  obtain ⟨⟨t101, t104, t105⟩, A20, H⟩ := H
  replace H : (if 0 ≤ (s0_0.length : Int) then (if ((s0_0.length : Int) : Int).toNat ≤ 35184372088832 then ((some (List.replicate ((s0_0.length : Int) : Int).toNat 0 : List Int)).bind fun y106 => (if 0 < (y106.length : Int) then (pull_layout_anchors.l0 k t101 (y106.set (0 : Int).toNat 1) (s0_0.length : Int) 0 s0_0 t104 t105) else (none))) else (none)) else (none)) = some (r1, r2, r3, r4) := H
  have A2 := Aside0.mk A20
  clear A20
  by_cases c3 : 0 ≤ (s0_0.length : Int)
  rotate_left
  · rw [if_neg c3] at H
    exact absurd H (by simp)

  rw [if_pos c3] at H
  have c3b0 := eq_true c3
  have c3b1 : decide (0 ≤ (s0_0.length : Int)) = true := decide_eq_true c3
  clear c3
  by_cases c4 : ((s0_0.length : Int) : Int).toNat ≤ 35184372088832
  rotate_left
  · rw [if_neg c4] at H
    exact absurd H (by simp)
  rw [if_pos c4] at H
  have c4b0 := eq_true c4
  have c4b1 : decide (((s0_0.length : Int) : Int).toNat ≤ 35184372088832) = true := decide_eq_true c4
  clear c4
  obtain ⟨y106, hy106⟩ : ∃ y_ : List Int, y_ = (List.replicate ((s0_0.length : Int) : Int).toNat 0) := ⟨_, rfl⟩
  replace H : (if 0 < (y106.length : Int) then (pull_layout_anchors.l0 k t101 (y106.set (0 : Int).toNat 1) (s0_0.length : Int) 0 s0_0 t104 t105) else (none)) = some (r1, r2, r3, r4) := by first | (rw [hy106]; with_reducible exact H) | (have H2_ := (Option.bind_some _ _).symm.trans H; rw [hy106]; with_reducible exact H2_) | (have H2_ := (Option.bind_some _ _).symm.trans H; with_reducible exact H2_) | with_reducible exact H | (rw [hy106]; exact H) | exact H
  have Ny106 := Aside0.mk hy106
  clear hy106
  by_cases c5 : 0 < (y106.length : Int)
  rotate_left
  · rw [if_neg c5] at H
    exact absurd H (by simp)
  rw [if_pos c5] at H
  have c5b0 : decide (0 < (y106.length : Int)) = true := decide_eq_true c5
  have c5b1 : decide (0 < y106.length) = true := decide_eq_true (by omega)
  clear c5
  obtain ⟨y109, hy109⟩ : ∃ y_ : List Int, y_ = (y106.set (0 : Int).toNat 1) := ⟨_, rfl⟩
  replace H : (pull_layout_anchors.l0 k t101 y109 (s0_0.length : Int) 0 s0_0 t104 t105) = some (r1, r2, r3, r4) := by first | (rw [hy109]; with_reducible exact H) | (have H2_ := (Option.bind_some _ _).symm.trans H; rw [hy109]; with_reducible exact H2_) | (have H2_ := (Option.bind_some _ _).symm.trans H; with_reducible exact H2_) | with_reducible exact H | (rw [hy109]; exact H) | exact H
  have Ny109 := Aside0.mk hy109
  clear hy109
  have H' := Aside0.mk H
  clear H
  go_enter Try.func64, Try.ntmps64
  go_wp2_with (first | ((with_reducible refine gate_callee (f := 59) rfl ?_); refine goesL_ (some 12) rfl rfl Try.func59 (by kernel_rfl) rfl #[.pointer (some ⟨g, 0, none⟩)] rfl (by (try simp only [List.map_toArray, List.map_cons, List.map_nil]); first | done | rfl | (simp only [List.length_drop, List.length_take]; rfl)) ?_; (with_reducible refine (pull_layout_numbers.calls k g s0_0 s0_1 s0_2 t101 t104 t105 w0 _ ?side1 ?side2 A2.out).mono ?_); (case side1 => repeat (first | (with_reducible first | exact HI0.out | apply IsS84.alloc | apply IsS84.drewN | apply IsS84.drew | apply IsS84.set_1 | apply IsS84.set_2) | exact HI0.out)); (case side2 => repeat (first | (with_reducible first | exact HB.out | apply below_alloc | apply pw_below_drewN | apply below_drew1 | refine below_set ?_ (IsS84.ge HI0.out)) | exact HB.out)); rintro e w7 ⟨v102, rfl, ho0, hi, hb, hk⟩; refine ⟨_, rfl, ?_⟩; have n0_ := Aside0.mk (Kd.R_lower ho0 (keep_size (w := w) (g := g) (row := none) (by repeat (first | (with_reducible first | exact HK.out | apply KeepBut.set_ | apply keep_drewN | apply keep_drew | apply keep_alloc) | exact HK.out)))); have n1_ := Aside0.mk (KeepBut.trans (by repeat (first | (with_reducible first | exact HK.out | apply KeepBut.set_ | apply keep_drewN | apply keep_drew | apply keep_alloc) | exact HK.out)) hk (.inl rfl)); have n2_ := Aside0.mk (hb); have n3_ := Aside0.mk (hi); clear HK; clear HB; clear HI0; have HO103 := n0_; have HK := n1_; have HB := n2_; have HI0 := n3_; clear n0_ n1_ n2_ n3_; (try clear hb); (try clear hb2); (try clear hk); (try clear hi); (try clear ho0); obtain ⟨ASz8_0, cSz8_0, HGz8, hgz8, ⟨HSz8_0, HSLz8_0⟩⟩ := HI0.out; have hcz8_0 := cellS84_0 HGz8; have hcz8_1 := cellS84_1 HGz8; have hcz8_2 := cellS84_2 HGz8; have hfz8_1 := blk_frozen HGz8 1; have hfz8_2 := blk_frozen HGz8 2; clear HGz8 hgz8) | ((with_reducible refine gate_dst (N := 18) rfl ?_); refine Kd.R_make (Kd.int .i64) _ 3 rfl (N := 18) rfl 37 _ _ rfl (s0_0.length : Int) rfl rfl Try.underlying37 (.int .i64 0) 8 info3 rfl (by decide) (by omega) 0 (ok := fun _ => True) (okp := fun _ => True) rfl (fun _ hk => hk) trivial (of_decide_eq_true (by first | (with_reducible assumption) | assumption)) (Nat.le_trans (Nat.mul_le_mul_right _ (of_decide_eq_true (by first | (with_reducible assumption) | assumption) : (s0_0.length : Int).toNat ≤ 35184372088832)) (by omega)) (Below.refl _ _) (Nat.le_refl _) ?_; intro v107 w9 ho10 hb hg_ hnew_; clear hg_ hnew_; (first | rw [← Ny106.out] at ho10 | (simp only [Int.reduceToNat] at ho10; rw [← Ny106.out] at ho10)); have n0_ := Aside0.mk (Kd.R_elder' (by (with_reducible repeat (first | apply Kd.R_alloc | apply Kd.R_drewN | apply Kd.R_drew)); exact HO103.out) (Kd.R_base ho10) hb); have n1_ := Aside0.mk (Kd.R_lower (Kd.R_new' ho10 (Kd.R_lt (by (with_reducible repeat (first | apply Kd.R_alloc | apply Kd.R_drewN | apply Kd.R_drew)); exact HO103.out))) (keep_size (w := w) (g := g) (row := none) (by repeat (first | (with_reducible first | exact HK.out | apply KeepBut.set_ | apply keep_drewN | apply keep_drew | apply keep_alloc) | exact HK.out)))); have n2_ := Aside0.mk (IsS84.below (by repeat (first | (with_reducible first | exact HI0.out | apply IsS84.alloc | apply IsS84.drewN | apply IsS84.drew | apply IsS84.set_1 | apply IsS84.set_2) | exact HI0.out)) hb); have n3_ := Aside0.mk (KeepBut.trans (by repeat (first | (with_reducible first | exact HK.out | apply KeepBut.set_ | apply keep_drewN | apply keep_drew | apply keep_alloc) | exact HK.out)) (KeepBut.of_below hb g none) (.inl rfl)); have n4_ := Aside0.mk (below_step (by repeat (first | (with_reducible first | exact HB.out | apply below_alloc | apply pw_below_drewN | apply below_drew1 | refine below_set ?_ (IsS84.ge HI0.out)) | exact HB.out)) hb); clear HO103; clear HI0; clear HK; clear HB; have HO103 := n0_; have HO108 := n1_; have HI0 := n2_; have HK := n3_; have HB := n4_; clear n0_ n1_ n2_ n3_ n4_; clear hb ho10; have p6 : 0 ≤ (0 : Int) := (by omega); have q6 : (0 : Int) < ((y106.length : Int) : Int) := of_decide_eq_true (by first | (with_reducible assumption) | assumption); have qi6 : (0 < y106.length) = True := eq_true (by omega); obtain ⟨go6, co6, eo6, gb6, gl6, cl6, HG6⟩ := Kd.R_form HO108.out (by omega); (first | cases eo6 | (injection eo6 with ea_ en_ ec_; (first | subst ea_ | (injection ea_ with ea_; subst ea_)); subst ec_; clear en_)); have GB6 := Aside0.mk gb6; have GG6 := Aside0.mk HG6; clear gb6 gl6 HG6; obtain ⟨hx6_0, hf6_0⟩ := Kd.R_celln 0 HO108.out (0 : Int) p6 q6; (try rw [show ((0 : Int)).toNat = 0 from rfl] at hx6_0); (try simp only [Nat.reduceMul, Nat.zero_mul, Nat.zero_add, Nat.reduceAdd] at hx6_0); (try rw [show ((0 : Int)).toNat = 0 from rfl] at hf6_0); (try simp only [Nat.reduceMul, Nat.zero_mul, Nat.zero_add, Nat.reduceAdd] at hf6_0); replace p6 := eq_true p6; replace q6 := eq_true q6; have n_ := Aside0.mk (Kd.R_mono (ok' := (fun k_ => some k_ ≠ (v102 : Value).ownBlock)) HO108.out (fun k_ hk => hk.2)); clear HO108; have HO108 := n_; clear n_; obtain ⟨hy11_, hz11_⟩ := Kd.R_celln 0 HO108.out (0 : Int) (by omega) (of_decide_eq_true (by first | (with_reducible assumption) | assumption)); (try simp only [Int.reduceToNat, Int.toNat_zero, Int.toNat_ofNat, Nat.reduceMul, Nat.zero_mul, Nat.zero_add] at hy11_ hz11_); (try rw [show ((0 : Int)).toNat = 0 from rfl] at hy11_); (try rw [show ((0 : Int)).toNat = 0 from rfl] at hz11_); have HP11 := Kd.R_putg HO108.out (0 : Int) 1) | ((with_reducible refine gate_store (t := 3) (p := 20) rfl ?_); refine store_event (t := 3) (p := 20) (v := ?vo_w12) (w1 := (w9.setCell ⟨go6, (0 : Int).toNat, none⟩ (.int .i64 1))) ?hg ?ho ?hn ?hr ?_; (case ho => rfl); (case hg => rfl); (case hn => rfl); (case hr => first | (go_simp; done) | (go_simp; rfl)); intro w12 hw; have hg : w9.grownBy w12 (some go6) := (by rw [hw]; exact HP11.2); have hp_ : Kd.R (Kd.int .i64) 3 w12 w.heap.size (fun k_ => some k_ ≠ (v102 : Value).ownBlock) (.slice (some ⟨go6, 0, none⟩) y106.length co6) y109 := (by rw [hw, Ny109.out]; exact HP11.1); clear HP11; have n0_ := Aside0.mk (IsS84.grown (by repeat (first | (with_reducible first | exact HI0.out | apply IsS84.alloc | apply IsS84.drewN | apply IsS84.drew | apply IsS84.set_1 | apply IsS84.set_2) | exact HI0.out)) hg (IsS84.own_ne HI0.out HO108.out (by decide))); have n1_ := Aside0.mk (Kd.R_after (v := (.slice (some ⟨go6, 0, none⟩) y106.length co6)) (v1 := (.slice (some ⟨go6, 0, none⟩) y106.length co6)) (ok := (fun _ => True)) (by (with_reducible repeat (first | apply Kd.R_alloc | apply Kd.R_drewN | apply Kd.R_drew)); exact HO103.out) hg (.inl rfl)); have n2_ := Aside0.mk (hp_); have n3_ := Aside0.mk ((by rw [hw]; exact below_set (HB.out) (Nat.le_trans HL.out GB6.out) : Below w0.heap.size w0 w12)); have n4_ := Aside0.mk (KeepBut.trans (by repeat (first | (with_reducible first | exact HK.out | apply KeepBut.set_ | apply keep_drewN | apply keep_drew | apply keep_alloc) | exact HK.out)) (KeepBut.of_grown hg g) (Kd.R_base2 HO108.out)); clear HI0; clear HO103; clear HO108; clear HB; clear HK; have HI0 := n0_; have HO103 := n1_; have HO108 := n2_; have HB := n3_; have HK := n4_; clear n0_ n1_ n2_ n3_ n4_; clear hg hw hp_; obtain ⟨ASz13_0, cSz13_0, HGz13, hgz13, ⟨HSz13_0, HSLz13_0⟩⟩ := HI0.out; have hcz13_0 := cellS84_0 HGz13; have hcz13_1 := cellS84_1 HGz13; have hcz13_2 := cellS84_2 HGz13; have hfz13_1 := blk_frozen HGz13 1; have hfz13_2 := blk_frozen HGz13 2; clear HGz13 hgz13))
  go_loopg [26] k (fun kq v26 w' => ∃ (x5_1 : List Int) (x26_1 : Int) (x1001_1 : Int) (x1002_1 : Int), v26 = .int .i64 x26_1 ∧ Aside0 (pull_layout_anchors.l0 kq t101 x5_1 (s0_0.length : Int) x26_1 s0_0 x1001_1 x1002_1 = some (r1, r2, r3, r4)) ∧ Aside0 (kq ≤ k) ∧ Aside0 (Kd.R (Kd.int .i64) 3 w' w.heap.size (fun k_ => some k_ ≠ ((.slice (some ⟨go6, 0, none⟩) y106.length co6) : Value).ownBlock) v102 t101) ∧ Aside0 (Kd.R (Kd.int .i64) 3 w' w.heap.size (fun k_ => some k_ ≠ (v102 : Value).ownBlock) (.slice (some ⟨go6, 0, none⟩) y106.length co6) x5_1) ∧ Aside0 (IsS84 w0 w' g s0_0 x1001_1 x1002_1) ∧ Aside0 (KeepBut w w' g none) ∧ Aside0 (Below w0.heap.size w0 w'))
  case atStart => exact ⟨(y109), (0), (t104), (t105), (by first | rfl | (simp; done) | (simp [*]; done)), H', ⟨Nat.le_refl _⟩, ⟨by (with_reducible repeat (first | apply Kd.R_alloc | apply Kd.R_drewN | apply Kd.R_drew)); exact Kd.R_mono HO103.out (fun _ hk => hk.2)⟩, ⟨by (with_reducible repeat (first | apply Kd.R_alloc | apply Kd.R_drewN | apply Kd.R_drew)); exact HO108.out⟩, ⟨by repeat (first | (with_reducible first | exact HI0.out | apply IsS84.alloc | apply IsS84.drewN | apply IsS84.drew | apply IsS84.set_1 | apply IsS84.set_2) | exact HI0.out)⟩, ⟨by repeat (first | (with_reducible first | exact HK.out | apply KeepBut.set_ | apply keep_drewN | apply keep_drew | apply keep_alloc) | exact HK.out)⟩, ⟨by repeat (first | (with_reducible first | exact HB.out | apply below_alloc | apply pw_below_drewN | apply below_drew1 | refine below_set ?_ (IsS84.ge HI0.out)) | exact HB.out)⟩⟩
  case round =>
    clear H'
    try clear p2
    try clear c3
    try clear c3b0
    try clear c3b1
    try clear c4
    try clear c4b0
    try clear c4b1
    try clear c5
    try clear c5b0
    try clear c5b1
    try clear c6
    try clear p6
    try clear q6
    try clear hx6
    try clear qi6
    try clear hf6
    try clear hcz13_0
    try clear hcz13_1
    try clear hcz13_2
    try clear hcz8_0
    try clear hcz8_1
    try clear hcz8_2
    try clear hfz13_1
    try clear hfz13_2
    try clear hfz8_1
    try clear hfz8_2
    try clear hx6_0
    try clear p6
    try clear q6
    obtain ⟨x5_1, x26_1, x1001_1, x1002_1, rfl, HA, HK1, HO_4, HO_5, HI0, HK, HB⟩ := hrel
    have hl5_1 := (Kd.R_reads' HO_5.out).1
    rw [hl5_1] at HO_5
    (try simp only [hl5_1])
    (try simp only [hl5_1] at HO_4)
    cases gk with
    | zero => exact absurd HA.out (by simp [pull_layout_anchors.l0])
    | succ k1 =>
      have H := HA.out
      clear HA
      simp only [pull_layout_anchors.l0] at H
      by_cases c14 : x26_1 < (s0_0.length : Int)
      · rw [if_pos c14] at H
        have c14b0 : decide (x26_1 < (s0_0.length : Int)) = true := decide_eq_true c14
        (try (have c14b0h := c14b0; simp only [hl5_1] at c14b0h))
        clear c14
        have H' := Aside0.mk H
        clear H
        go_wp2
        go_loopg [30] k1 (fun kq v30 w' => ∃ (x5_2 : List Int) (x30_2 : Int) (x1001_2 : Int) (x1002_2 : Int), v30 = .int .i64 x30_2 ∧ Aside0 (pull_layout_anchors.l1 kq t101 x5_2 x26_1 (s0_0.length : Int) x26_1 x26_1 x30_2 s0_0 x1001_2 x1002_2 = some (r1, r2, r3, r4)) ∧ Aside0 (kq ≤ k1) ∧ Aside0 (Kd.R (Kd.int .i64) 3 w' w.heap.size (fun k_ => some k_ ≠ ((.slice (some ⟨go6, 0, none⟩) x5_1.length co6) : Value).ownBlock) v102 t101) ∧ Aside0 (Kd.R (Kd.int .i64) 3 w' w.heap.size (fun k_ => some k_ ≠ (v102 : Value).ownBlock) (.slice (some ⟨go6, 0, none⟩) x5_1.length co6) x5_2) ∧ Aside0 (IsS84 w0 w' g s0_0 x1001_2 x1002_2) ∧ Aside0 (KeepBut w w' g none) ∧ Aside0 (Below w0.heap.size w0 w'))
        case atStart => exact ⟨(x5_1), (0), (x1001_1), (x1002_1), (by first | rfl | (simp; done) | (simp [*]; done)), H', ⟨Nat.le_refl _⟩, ⟨by (try simp only [hl5_1]); (with_reducible repeat (first | apply Kd.R_alloc | apply Kd.R_drewN | apply Kd.R_drew)); exact HO_4.out⟩, ⟨by (try simp only [hl5_1]); (with_reducible repeat (first | apply Kd.R_alloc | apply Kd.R_drewN | apply Kd.R_drew)); exact HO_5.out⟩, ⟨by repeat (first | (with_reducible first | exact HI0.out | apply IsS84.alloc | apply IsS84.drewN | apply IsS84.drew | apply IsS84.set_1 | apply IsS84.set_2) | exact HI0.out)⟩, ⟨by repeat (first | (with_reducible first | exact HK.out | apply KeepBut.set_ | apply keep_drewN | apply keep_drew | apply keep_alloc) | exact HK.out)⟩, ⟨by repeat (first | (with_reducible first | exact HB.out | apply below_alloc | apply pw_below_drewN | apply below_drew1 | refine below_set ?_ (IsS84.ge HI0.out)) | exact HB.out)⟩⟩
        case round =>
          clear H'
          try clear c1
          try clear p2
          try clear c3
          try clear c3b0
          try clear c3b1
          try clear c4
          try clear c4b0
          try clear c4b1
          try clear c5
          try clear c5b0
          try clear c5b1
          try clear c6
          try clear p6
          try clear q6
          try clear hx6
          try clear qi6
          try clear hf6
          try clear c14
          try clear c14b0
          try clear hcz13_0
          try clear hcz13_1
          try clear hcz13_2
          try clear hcz8_0
          try clear hcz8_1
          try clear hcz8_2
          try clear hfz13_1
          try clear hfz13_2
          try clear hfz8_1
          try clear hfz8_2
          try clear hx6_0
          try clear p2
          try clear p6
          try clear q6
          obtain ⟨x5_2, x30_2, x1001_2, x1002_2, rfl, HA, HK2, HO_4, HO_5, HI0, HK, HB⟩ := hrel
          have hl5_2 := (Kd.R_reads' HO_5.out).1
          rw [hl5_2] at HO_5
          (try simp only [hl5_2])
          (try simp only [hl5_2] at HO_4)
          cases gk with
          | zero => exact absurd HA.out (by simp [pull_layout_anchors.l1])
          | succ k2 =>
            have H := HA.out
            clear HA
            simp only [pull_layout_anchors.l1] at H
            by_cases c15 : x30_2 < x26_1
            rotate_left
            · rw [if_neg c15] at H
              have c15b0 : decide (x30_2 < x26_1) = false := decide_eq_false c15
              clear c15
              have H' := Aside0.mk H
              clear H
              go_wp2
              (try simp only [← hl5_1, ← hl5_2])
              go_roundg k2
              case measure => have := HK1.out; have := HK2.out; omega
              case rel => exact ⟨(x5_2), (wrap64 (x26_1 + 1)), (x1001_2), (x1002_2), (by first | rfl | (simp; done) | (simp [*]; done)), H', ⟨by have := HK1.out; have := HK2.out; omega⟩, ⟨by (try simp only [hl5_1]); (try simp only [hl5_2]); (with_reducible repeat (first | apply Kd.R_alloc | apply Kd.R_drewN | apply Kd.R_drew)); exact HO_4.out⟩, ⟨by (try simp only [hl5_1]); (try simp only [hl5_2]); (with_reducible repeat (first | apply Kd.R_alloc | apply Kd.R_drewN | apply Kd.R_drew)); exact HO_5.out⟩, ⟨by repeat (first | (with_reducible first | exact HI0.out | apply IsS84.alloc | apply IsS84.drewN | apply IsS84.drew | apply IsS84.set_1 | apply IsS84.set_2) | exact HI0.out)⟩, ⟨by repeat (first | (with_reducible first | exact HK.out | apply KeepBut.set_ | apply keep_drewN | apply keep_drew | apply keep_alloc) | exact HK.out)⟩, ⟨by repeat (first | (with_reducible first | exact HB.out | apply below_alloc | apply pw_below_drewN | apply below_drew1 | refine below_set ?_ (IsS84.ge HI0.out)) | exact HB.out)⟩⟩
            rw [if_pos c15] at H
            have c15b0 : decide (x30_2 < x26_1) = true := decide_eq_true c15
            clear c15
            replace H := Option.bind_eq_some_iff.mp H
            obtain ⟨⟨t110, t111, t112, t113⟩, A160, H⟩ := H
            replace H : (if t111 = true then (if 0 ≤ x26_1 then (if x26_1 < (x5_2.length : Int) then (if 0 ≤ x30_2 then (if x30_2 < (x5_2.length : Int) then (pull_layout_anchors.l1 k2 t101 (x5_2.set (x26_1 : Int).toNat (wrap64 ((rd x5_2 x26_1) + (rd x5_2 x30_2)))) x26_1 (s0_0.length : Int) x26_1 x26_1 (wrap64 (x30_2 + 1)) s0_0 t112 t113) else (none)) else (none)) else (none)) else (none)) else (pull_layout_anchors.l1 k2 t101 x5_2 x26_1 (s0_0.length : Int) x26_1 x26_1 (wrap64 (x30_2 + 1)) s0_0 t112 t113)) = some (r1, r2, r3, r4) := H
            have A16 := Aside0.mk A160
            clear A160
            by_cases c17 : t111 = true
            rotate_left
            · replace c17 := Bool.eq_false_iff.mpr c17
              subst c17
              have H1 : (pull_layout_anchors.l1 k2 t101 x5_2 x26_1 (s0_0.length : Int) x26_1 x26_1 (wrap64 (x30_2 + 1)) s0_0 t112 t113) = some (r1, r2, r3, r4) := by rw [if_neg (show ¬ (false = true) by decide)] at H; exact H
              clear H
              have H := H1
              clear H1
              have H' := Aside0.mk H
              clear H
              go_wp2_with (first | ((with_reducible refine gate_callee (f := 75) rfl ?_); refine goesL_ (some 37) rfl rfl Try.func75 (by kernel_rfl) rfl #[.pointer (some ⟨g, 0, none⟩), .int .i64 x30_2, .int .i64 x26_1] rfl (by (try simp only [List.map_toArray, List.map_cons, List.map_nil]); first | done | rfl | (simp only [List.length_drop, List.length_take]; rfl)) ?_; (with_reducible refine (pull_layout_length.calls g s0_0 x1001_2 x1002_2 x30_2 x26_1 t110 false t112 t113 w0 _ ?side1 ?side2 A16.out).mono ?_); (case side1 => repeat (first | (with_reducible first | exact HI0.out | apply IsS84.alloc | apply IsS84.drewN | apply IsS84.drew | apply IsS84.set_1 | apply IsS84.set_2) | exact HI0.out)); (case side2 => repeat (first | (with_reducible first | exact HB.out | apply below_alloc | apply pw_below_drewN | apply below_drew1 | refine below_set ?_ (IsS84.ge HI0.out)) | exact HB.out)); rintro e w26 ⟨rfl, hi, hb, hk⟩; refine ⟨_, rfl, ?_⟩; have n0_ := Aside0.mk (Kd.R_mono (Kd.R_keep (IsS84.apart (show IsS84 w0 _ g s0_0 x1001_2 x1002_2 from by repeat (first | (with_reducible first | exact HI0.out | apply IsS84.alloc | apply IsS84.drewN | apply IsS84.drew | apply IsS84.set_1 | apply IsS84.set_2) | exact HI0.out)) (by (with_reducible repeat (first | apply Kd.R_alloc | apply Kd.R_drewN | apply Kd.R_drew)); exact HO_4.out) (by decide)) hk (fun _ h => h.2)) (fun _ h => h.1)); have n1_ := Aside0.mk (Kd.R_mono (Kd.R_keep (IsS84.apart (show IsS84 w0 _ g s0_0 x1001_2 x1002_2 from by repeat (first | (with_reducible first | exact HI0.out | apply IsS84.alloc | apply IsS84.drewN | apply IsS84.drew | apply IsS84.set_1 | apply IsS84.set_2) | exact HI0.out)) (by (with_reducible repeat (first | apply Kd.R_alloc | apply Kd.R_drewN | apply Kd.R_drew)); exact HO_5.out) (by decide)) hk (fun _ h => h.2)) (fun _ h => h.1)); have n2_ := Aside0.mk (KeepBut.trans (by repeat (first | (with_reducible first | exact HK.out | apply KeepBut.set_ | apply keep_drewN | apply keep_drew | apply keep_alloc) | exact HK.out)) hk (.inl rfl)); have n3_ := Aside0.mk (hb); have n4_ := Aside0.mk (hi); clear HO_4; clear HO_5; clear HK; clear HB; clear HI0; have HO_4 := n0_; have HO_5 := n1_; have HK := n2_; have HB := n3_; have HI0 := n4_; clear n0_ n1_ n2_ n3_ n4_; (try clear hb); (try clear hb2); (try clear hk); (try clear hi)))
              (try simp only [← hl5_2])
              go_roundg k2
              case measure => have := HK1.out; have := HK2.out; omega
              case rel => exact ⟨(x5_2), (wrap64 (x30_2 + 1)), (t112), (t113), (by first | rfl | (simp; done) | (simp [*]; done)), H', ⟨by have := HK1.out; have := HK2.out; omega⟩, ⟨by (try simp only [hl5_1]); (try simp only [hl5_2]); (with_reducible repeat (first | apply Kd.R_alloc | apply Kd.R_drewN | apply Kd.R_drew)); exact HO_4.out⟩, ⟨by (try simp only [hl5_1]); (try simp only [hl5_2]); (with_reducible repeat (first | apply Kd.R_alloc | apply Kd.R_drewN | apply Kd.R_drew)); exact HO_5.out⟩, ⟨by repeat (first | (with_reducible first | exact HI0.out | apply IsS84.alloc | apply IsS84.drewN | apply IsS84.drew | apply IsS84.set_1 | apply IsS84.set_2) | exact HI0.out)⟩, ⟨by repeat (first | (with_reducible first | exact HK.out | apply KeepBut.set_ | apply keep_drewN | apply keep_drew | apply keep_alloc) | exact HK.out)⟩, ⟨by repeat (first | (with_reducible first | exact HB.out | apply below_alloc | apply pw_below_drewN | apply below_drew1 | refine below_set ?_ (IsS84.ge HI0.out)) | exact HB.out)⟩⟩
            subst c17
            have H1 : (if 0 ≤ x26_1 then (if x26_1 < (x5_2.length : Int) then (if 0 ≤ x30_2 then (if x30_2 < (x5_2.length : Int) then (pull_layout_anchors.l1 k2 t101 (x5_2.set (x26_1 : Int).toNat (wrap64 ((rd x5_2 x26_1) + (rd x5_2 x30_2)))) x26_1 (s0_0.length : Int) x26_1 x26_1 (wrap64 (x30_2 + 1)) s0_0 t112 t113) else (none)) else (none)) else (none)) else (none)) = some (r1, r2, r3, r4) := by rw [if_pos rfl] at H; exact H
            clear H
            have H := H1
            clear H1
            by_cases c18 : 0 ≤ x26_1
            rotate_left
            · rw [if_neg c18] at H
              exact absurd H (by simp)
            rw [if_pos c18] at H
            have c18b0 : decide (0 ≤ x26_1) = true := decide_eq_true c18
            clear c18
            by_cases c19 : x26_1 < (x5_2.length : Int)
            rotate_left
            · rw [if_neg c19] at H
              exact absurd H (by simp)
            rw [if_pos c19] at H
            have c19b0 : decide (x26_1 < (x5_2.length : Int)) = true := decide_eq_true c19
            (try (have c19b0h := c19b0; simp only [hl5_1, hl5_2] at c19b0h))
            clear c19
            by_cases c20 : 0 ≤ x30_2
            rotate_left
            · rw [if_neg c20] at H
              exact absurd H (by simp)
            rw [if_pos c20] at H
            have c20b0 : decide (0 ≤ x30_2) = true := decide_eq_true c20
            clear c20
            by_cases c21 : x30_2 < (x5_2.length : Int)
            rotate_left
            · rw [if_neg c21] at H
              exact absurd H (by simp)
            rw [if_pos c21] at H
            have c21b0 : decide (x30_2 < (x5_2.length : Int)) = true := decide_eq_true c21
            (try (have c21b0h := c21b0; simp only [hl5_1, hl5_2] at c21b0h))
            clear c21
            obtain ⟨y116, hy116⟩ : ∃ y_ : List Int, y_ = (x5_2.set (x26_1 : Int).toNat (wrap64 ((rd x5_2 x26_1) + (rd x5_2 x30_2)))) := ⟨_, rfl⟩
            replace H : (pull_layout_anchors.l1 k2 t101 y116 x26_1 (s0_0.length : Int) x26_1 x26_1 (wrap64 (x30_2 + 1)) s0_0 t112 t113) = some (r1, r2, r3, r4) := by first | (rw [hy116]; with_reducible exact H) | (have H2_ := (Option.bind_some _ _).symm.trans H; rw [hy116]; with_reducible exact H2_) | (have H2_ := (Option.bind_some _ _).symm.trans H; with_reducible exact H2_) | with_reducible exact H | (rw [hy116]; exact H) | exact H
            have Ny116 := Aside0.mk hy116
            clear hy116
            have H' := Aside0.mk H
            clear H
            try go_wp2_with (first | ((with_reducible refine gate_callee (f := 75) rfl ?_); refine goesL_ (some 37) rfl rfl Try.func75 (by kernel_rfl) rfl #[.pointer (some ⟨g, 0, none⟩), .int .i64 x30_2, .int .i64 x26_1] rfl (by (try simp only [List.map_toArray, List.map_cons, List.map_nil]); first | done | rfl | (simp only [List.length_drop, List.length_take]; rfl)) ?_; (with_reducible refine (pull_layout_length.calls g s0_0 x1001_2 x1002_2 x30_2 x26_1 t110 true t112 t113 w0 _ ?side1 ?side2 A16.out).mono ?_); (case side1 => repeat (first | (with_reducible first | exact HI0.out | apply IsS84.alloc | apply IsS84.drewN | apply IsS84.drew | apply IsS84.set_1 | apply IsS84.set_2) | exact HI0.out)); (case side2 => repeat (first | (with_reducible first | exact HB.out | apply below_alloc | apply pw_below_drewN | apply below_drew1 | refine below_set ?_ (IsS84.ge HI0.out)) | exact HB.out)); rintro e w23 ⟨rfl, hi, hb, hk⟩; refine ⟨_, rfl, ?_⟩; have n0_ := Aside0.mk (Kd.R_mono (Kd.R_keep (IsS84.apart (show IsS84 w0 _ g s0_0 x1001_2 x1002_2 from by repeat (first | (with_reducible first | exact HI0.out | apply IsS84.alloc | apply IsS84.drewN | apply IsS84.drew | apply IsS84.set_1 | apply IsS84.set_2) | exact HI0.out)) (by (with_reducible repeat (first | apply Kd.R_alloc | apply Kd.R_drewN | apply Kd.R_drew)); exact HO_4.out) (by decide)) hk (fun _ h => h.2)) (fun _ h => h.1)); have n1_ := Aside0.mk (Kd.R_mono (Kd.R_keep (IsS84.apart (show IsS84 w0 _ g s0_0 x1001_2 x1002_2 from by repeat (first | (with_reducible first | exact HI0.out | apply IsS84.alloc | apply IsS84.drewN | apply IsS84.drew | apply IsS84.set_1 | apply IsS84.set_2) | exact HI0.out)) (by (with_reducible repeat (first | apply Kd.R_alloc | apply Kd.R_drewN | apply Kd.R_drew)); exact HO_5.out) (by decide)) hk (fun _ h => h.2)) (fun _ h => h.1)); have n2_ := Aside0.mk (KeepBut.trans (by repeat (first | (with_reducible first | exact HK.out | apply KeepBut.set_ | apply keep_drewN | apply keep_drew | apply keep_alloc) | exact HK.out)) hk (.inl rfl)); have n3_ := Aside0.mk (hb); have n4_ := Aside0.mk (hi); clear HO_4; clear HO_5; clear HK; clear HB; clear HI0; have HO_4 := n0_; have HO_5 := n1_; have HK := n2_; have HB := n3_; have HI0 := n4_; clear n0_ n1_ n2_ n3_ n4_; (try clear hb); (try clear hb2); (try clear hk); (try clear hi)))
            have n0_ := Aside0.mk (Kd.R_drew HO_4.out)
            have n1_ := Aside0.mk (Kd.R_drew HO_5.out)
            have n2_ := Aside0.mk (IsS84.drew HI0.out)
            have n3_ := Aside0.mk (keep_drew HK.out)
            have n4_ := Aside0.mk (below_drew1 HB.out)
            clear HO_4
            clear HO_5
            clear HI0
            clear HK
            clear HB
            have HO_4 := n0_
            have HO_5 := n1_
            have HI0 := n2_
            have HK := n3_
            have HB := n4_
            clear n0_ n1_ n2_ n3_ n4_
            have p114 : 0 ≤ (x26_1 : Int) := of_decide_eq_true (by first | (with_reducible assumption) | assumption)
            have q114 : x26_1 < (x5_2.length : Int) := of_decide_eq_true (by first | (with_reducible assumption) | assumption)
            obtain ⟨ad114, e114, hx114_0⟩ := Kd.at_int (Kd.R_reads' HO_5.out).2.2 x26_1 p114 q114
            obtain rfl : (⟨go6, 0, none⟩ : Addr) = ad114 := (by injection e114)
            (first | simp only [add_plain] at hx114_0 | simp only [add_at] at hx114_0 | simp only [Addr.add, Nat.zero_add] at hx114_0 | skip)
            replace p114 := eq_true p114
            replace q114 := eq_true q114
            have p115 : 0 ≤ (x30_2 : Int) := of_decide_eq_true (by first | (with_reducible assumption) | assumption)
            have q115 : x30_2 < (x5_2.length : Int) := of_decide_eq_true (by first | (with_reducible assumption) | assumption)
            obtain ⟨ad115, e115, hx115_0⟩ := Kd.at_int (Kd.R_reads' HO_5.out).2.2 x30_2 p115 q115
            obtain rfl : (⟨go6, 0, none⟩ : Addr) = ad115 := (by injection e115)
            (first | simp only [add_plain] at hx115_0 | simp only [add_at] at hx115_0 | simp only [Addr.add, Nat.zero_add] at hx115_0 | skip)
            replace p115 := eq_true p115
            replace q115 := eq_true q115
            have p22 : 0 ≤ (x26_1 : Int) := of_decide_eq_true (by first | (with_reducible assumption) | assumption)
            have q22 : (x26_1 : Int) < ((x5_2.length : Int) : Int) := of_decide_eq_true (by first | (with_reducible assumption) | assumption)
            obtain ⟨hx22_0, hf22_0⟩ := Kd.R_celln 0 HO_5.out (x26_1 : Int) p22 q22
            replace p22 := eq_true p22
            replace q22 := eq_true q22
            have HN0_go6 := Aside0.mk (show g ≠ go6 from by have h_ := IsS84.own_ne HI0.out HO_5.out (by decide); intro e_; exact h_ (by rw [e_]; rfl))
            have HP25 := Kd.R_putn HO_5.out (x26_1 : Int) (wrap64 ((rd x5_2 x26_1) + (rd x5_2 x30_2)))
            rw [← Ny116.out] at HP25
            have HQ25 := Aside0.mk HP25
            clear HP25
            refine start_ (n := 11) (S := fun w' => w'.cell? ⟨go6, (x26_1).toNat, none⟩ = some (.int .i64 (rd x5_2 x26_1)) ∧ w'.cell? ⟨go6, (x30_2).toNat, none⟩ = some (.int .i64 (rd x5_2 x30_2))) (ds := [10]) (mkB 11 0) (by kernel_rfl) rfl rfl ⟨hx114_0, hx115_0⟩ (fun hHeld => ?_); refine with_tabW pull_layout_anchors.tab12 pull_layout_anchors.bits12 (fun HT_ HW_ => ?_)
            generalize w23.drew = w24 at HO_4 HO_5 HI0 HK HB HQ25 hf22_0 hx114_0 hx115_0 hx22_0 hHeld ⊢
            refine pr_ 0 (some 41) (mkB 11 1) HT_ ?_
            refine pr_ 1 (some 42) (mkB 11 3) HT_ ?_
            refine pr_ 2 (some 43) (mkB 11 7) HT_ ?_
            refine pr_ 4 (some 45) (mkB 11 23) HT_ ?_
            refine pr_ 5 (some 46) (mkB 11 55) HT_ ?_
            refine pr_ 6 (some 47) (mkB 11 119) HT_ ?_
            refine take_ (i := 3) (N := some 44) (v := ?_) (a' := ?_) (mkB 11 127) rfl rfl (take_ofW HT_.out HW_.out (by kernel_rfl)) (fun _ _ _ h => h) (Or.inl ⟨by rfl, ?_⟩) hHeld ?_ ?_
            rotate_left
            · rintro w' ⟨s0, s1⟩
              go_simp
              with_reducible rfl
            rotate_left
            · simp only [Act.put, List.setIfInBounds_toArray, List.set_cons_zero, List.set_cons_succ, i64_w, i32_w]
              rfl
            refine take_ (i := 7) (N := some 48) (v := ?_) (a' := ?_) (mkB 11 255) rfl rfl (take_ofW HT_.out HW_.out (by kernel_rfl)) (fun _ _ _ h => h) (Or.inl ⟨by rfl, ?_⟩) hHeld ?_ ?_
            rotate_left
            · rintro w' ⟨s0, s1⟩
              go_simp
              with_reducible rfl
            rotate_left
            · simp only [Act.put, List.setIfInBounds_toArray, List.set_cons_zero, List.set_cons_succ, i64_w, i32_w]
              rfl
            refine pr_ 8 (some 49) (mkB 11 511) HT_ ?_
            refine pr_ 9 (some 50) (mkB 11 1023) HT_ ?_
            refine last_ (i := 10) (N := none) (mkB 11 2047) rfl rfl (one_of HT_.out (by kernel_rfl)) (by decide) (fun K hK => ?_)
            refine skip_ (w1 := ?_) (by rfl) rfl ?_ ?_
            rotate_left
            · go_simp
              rfl
            refine hK.out _ _ ?_
            clear hK K
            refine done_ (done_of HT_.out (by kernel_rfl)) ?_
            try go_wp2
            (try simp only [← hl5_2])
            go_roundg k2
            case measure => have := HK1.out; have := HK2.out; omega
            case rel => exact ⟨(y116), (wrap64 (x30_2 + 1)), (t112), (t113), (by first | rfl | (simp; done) | (simp [*]; done)), H', ⟨by have := HK1.out; have := HK2.out; omega⟩, ⟨by (try simp only [hl5_1]); (try simp only [hl5_2]); (with_reducible repeat (first | apply Kd.R_alloc | apply Kd.R_drewN | apply Kd.R_drew)); exact Kd.R_mono (Kd.R_far (p := ⟨go6, (x26_1 : Int).toNat, none⟩) (Kd.R_mono HO_4.out (fun k_ hk => (⟨hk, fun e_ => hk (by rw [e_]; rfl)⟩ : _ ∧ k_ ≠ go6))) (fun _ hk => hk.2) (.int .i64 (wrap64 ((rd x5_2 x26_1) + (rd x5_2 x30_2))))) (fun _ hk => hk.1)⟩, ⟨by (try simp only [hl5_1]); (try simp only [hl5_2]); (with_reducible repeat (first | apply Kd.R_alloc | apply Kd.R_drewN | apply Kd.R_drew)); exact HQ25.out⟩, ⟨by repeat (first | (with_reducible first | exact HI0.out | apply IsS84.alloc | apply IsS84.drewN | apply IsS84.drew | apply IsS84.set_1 | apply IsS84.set_2 | refine IsS84.far ?_ HN0_go6.out _) | exact HI0.out)⟩, ⟨by repeat (first | (with_reducible first | exact HK.out | apply KeepBut.set_ | apply keep_drewN | apply keep_drew | apply keep_alloc | refine keep_far ?_ GB6.out _) | exact HK.out)⟩, ⟨by repeat (first | (with_reducible first | exact HB.out | apply below_alloc | apply pw_below_drewN | apply below_drew1 | refine below_set ?_ (Nat.le_trans HL.out GB6.out) | refine below_set ?_ (IsS84.ge HI0.out)) | exact HB.out)⟩⟩
      rw [if_neg c14] at H
      have c14b0 : decide (x26_1 < (s0_0.length : Int)) = false := decide_eq_false c14
      (try (have c14b0h := c14b0; simp only [hl5_1] at c14b0h))
      clear c14
      have H' := Aside0.mk H
      clear H
      obtain ⟨ASz27_0, cSz27_0, HGz27, hgz27, ⟨HSz27_0, HSLz27_0⟩⟩ := HI0.out
      have hcz27_0 := cellS84_0 HGz27
      have hcz27_1 := cellS84_1 HGz27
      have hcz27_2 := cellS84_2 HGz27
      have hfz27_1 := blk_frozen HGz27 1
      have hfz27_2 := blk_frozen HGz27 2
      clear HGz27 hgz27
      go_wp2
      go_loopg [2, 58] k1 (fun kq v2 v58 w' => ∃ (x2_2 : List Int) (x58_2 : Int), v58 = .int .i64 x58_2 ∧ Aside0 (pull_layout_anchors.l2 kq x2_2 t101 x5_1 (s0_0.length : Int) x58_2 s0_0 x1001_1 x1002_1 = some (r1, r2, r3, r4)) ∧ Aside0 (kq ≤ k1) ∧ Aside0 (Kd.R (Kd.int .i64) 3 w' w.heap.size (fun k_ => some k_ ≠ (v102 : Value).ownBlock ∧ some k_ ≠ ((.slice (some ⟨go6, 0, none⟩) x5_1.length co6) : Value).ownBlock) v2 x2_2) ∧ Aside0 (Kd.R (Kd.int .i64) 3 w' w.heap.size (fun k_ => some k_ ≠ (v2 : Value).ownBlock ∧ some k_ ≠ ((.slice (some ⟨go6, 0, none⟩) x5_1.length co6) : Value).ownBlock) v102 t101) ∧ Aside0 (Kd.R (Kd.int .i64) 3 w' w.heap.size (fun k_ => some k_ ≠ (v2 : Value).ownBlock ∧ some k_ ≠ (v102 : Value).ownBlock) (.slice (some ⟨go6, 0, none⟩) x5_1.length co6) x5_1) ∧ Aside0 (IsS84 w0 w' g s0_0 x1001_1 x1002_1) ∧ Aside0 (KeepBut w w' g none) ∧ Aside0 (Below w0.heap.size w0 w'))
      case atStart => exact ⟨(([] : List Int)), (0), (by first | rfl | (simp; done) | (simp [*]; done)), H', ⟨Nat.le_refl _⟩, ⟨by (try simp only [hl5_1]); first | exact Kd.R_nil _ _ _ _ _ | exact Kd.N_nil _ _ _ _ _ | exact Kd.V_nil _ _ _ _ _ | exact Kd.Q_nil _ _ _ _ _ | exact Kd.S_nil _ _ _ _ _⟩, ⟨by (try simp only [hl5_1]); (with_reducible repeat (first | apply Kd.R_alloc | apply Kd.R_drewN | apply Kd.R_drew)); exact Kd.R_mono HO_4.out (fun _ hk => ⟨(by simp [Value.ownBlock]), hk⟩)⟩, ⟨by (try simp only [hl5_1]); (with_reducible repeat (first | apply Kd.R_alloc | apply Kd.R_drewN | apply Kd.R_drew)); exact Kd.R_mono HO_5.out (fun _ hk => ⟨(by simp [Value.ownBlock]), hk⟩)⟩, ⟨by repeat (first | (with_reducible first | exact HI0.out | apply IsS84.alloc | apply IsS84.drewN | apply IsS84.drew | apply IsS84.set_1 | apply IsS84.set_2) | exact HI0.out)⟩, ⟨by repeat (first | (with_reducible first | exact HK.out | apply KeepBut.set_ | apply keep_drewN | apply keep_drew | apply keep_alloc) | exact HK.out)⟩, ⟨by repeat (first | (with_reducible first | exact HB.out | apply below_alloc | apply pw_below_drewN | apply below_drew1 | refine below_set ?_ (IsS84.ge HI0.out)) | exact HB.out)⟩⟩
      case round =>
        clear H'
        try clear c1
        try clear p1
        try clear q1
        try clear hx1
        try clear c2
        try clear p2
        try clear q2
        try clear hx2
        try clear hf2
        try clear c3
        try clear c3b0
        try clear c3b1
        try clear c4
        try clear c4b0
        try clear c4b1
        try clear c5
        try clear c5b0
        try clear c5b1
        try clear c6
        try clear p6
        try clear q6
        try clear hx6
        try clear qi6
        try clear hf6
        try clear c7
        try clear p11
        try clear q11
        try clear hx11
        try clear c14
        try clear c14b0
        try clear c15
        try clear c15b0
        try clear c17
        try clear c18
        try clear c18b0
        try clear c19
        try clear c19b0
        try clear c20
        try clear c20b0
        try clear c21
        try clear c21b0
        try clear p22
        try clear q22
        try clear hx22
        try clear hf22
        try clear hcz13_0
        try clear hcz13_1
        try clear hcz13_2
        try clear hcz27_0
        try clear hcz27_1
        try clear hcz27_2
        try clear hcz8_0
        try clear hcz8_1
        try clear hcz8_2
        try clear hfz13_1
        try clear hfz13_2
        try clear hfz27_1
        try clear hfz27_2
        try clear hfz8_1
        try clear hfz8_2
        try clear hx114_0
        try clear hx115_0
        try clear hx22_0
        try clear hx6_0
        try clear p114
        try clear p115
        try clear p2
        try clear p22
        try clear p6
        try clear q114
        try clear q115
        try clear q22
        try clear q6
        obtain ⟨x2_2, x58_2, rfl, HA, HK2, HO_2, HO_4, HO_5, HI0, HK, HB⟩ := hrel
        cases gk with
        | zero => exact absurd HA.out (by simp [pull_layout_anchors.l2])
        | succ k2 =>
          have H := HA.out
          clear HA
          simp only [pull_layout_anchors.l2] at H
          by_cases c28 : x58_2 < (s0_0.length : Int)
          rotate_left
          · rw [if_neg c28] at H
            have c28b0 : decide (x58_2 < (s0_0.length : Int)) = false := decide_eq_false c28
            (try (have c28b0h := c28b0; simp only [hl5_1] at c28b0h))
            clear c28
            by_cases c36 : 0 < (t101.length : Int)
            rotate_left
            · rw [if_neg c36] at H
              exact absurd H (by simp)
            rw [if_pos c36] at H
            have c36b0 : decide (0 < (t101.length : Int)) = true := decide_eq_true c36
            (try (have c36b0h := c36b0; simp only [hl5_1] at c36b0h))
            have c36b1 : decide (0 < t101.length) = true := decide_eq_true (by omega)
            (try (have c36b1h := c36b1; simp only [hl5_1] at c36b1h))
            clear c36
            simp only [Option.some.injEq, Prod.mk.injEq] at H
            obtain ⟨rfl, rfl, rfl, rfl⟩ := H
            try go_wp2
            have n0_ := Aside0.mk (Kd.R_drew HO_2.out)
            have n1_ := Aside0.mk (Kd.R_drew HO_4.out)
            have n2_ := Aside0.mk (Kd.R_drew HO_5.out)
            have n3_ := Aside0.mk (IsS84.drew HI0.out)
            have n4_ := Aside0.mk (keep_drew HK.out)
            have n5_ := Aside0.mk (below_drew1 HB.out)
            clear HO_2
            clear HO_4
            clear HO_5
            clear HI0
            clear HK
            clear HB
            have HO_2 := n0_
            have HO_4 := n1_
            have HO_5 := n2_
            have HI0 := n3_
            have HK := n4_
            have HB := n5_
            clear n0_ n1_ n2_ n3_ n4_ n5_
            obtain ⟨Ao38, co38, eo38⟩ := Kd.R_slice HO_4.out
            (first | subst eo38 | (injection eo38 with f1_ f2_ f3_; have f4_ := f1_.symm; have f5_ := f3_.symm; clear f1_ f2_ f3_; subst f4_; subst f5_))
            have p122 : 0 ≤ (0 : Int) := (by omega)
            have q122 : 0 < (t101.length : Int) := of_decide_eq_true (by first | (with_reducible assumption) | assumption)
            obtain ⟨ad122, e122, hx122_0⟩ := Kd.at_int (Kd.R_reads' HO_4.out).2.2 0 p122 q122
            cases e122
            have qi122 : (0 < t101.length) = True := eq_true (by omega)
            (try rw [show ((0 : Int)).toNat = 0 from rfl] at hx122_0)
            (try rw [Addr.add_zero'] at hx122_0)
            replace p122 := eq_true p122
            replace q122 := eq_true q122
            refine start_ (n := 6) (S := fun w' => w'.cell? ad122 = some (.int .i64 (rd t101 0))) (ds := []) (mkB 6 0) (by kernel_rfl) rfl rfl (hx122_0) (fun hHeld => ?_)
            generalize wr.drew = w37 at HO_2 HO_4 HO_5 HI0 HK HB hx122_0 hHeld ⊢
            refine pure_ (i := 0) (N := some 74) (v := ?_) (a' := ?_) (mkB 6 1) rfl rfl (by kernel_rfl) (fun _ _ _ h => h) (Or.inl ⟨by rfl, ?_⟩) ?_ ?_
            rotate_left
            · intro w'
              go_simp
              with_reducible rfl
            rotate_left
            · simp only [Act.put, List.setIfInBounds_toArray, List.set_cons_zero, List.set_cons_succ, i64_w, i32_w]
              rfl
            refine pure_ (i := 1) (N := some 75) (v := ?_) (a' := ?_) (mkB 6 3) rfl rfl (by kernel_rfl) (fun _ _ _ h => h) (Or.inl ⟨by rfl, ?_⟩) ?_ ?_
            rotate_left
            · intro w'
              go_simp
              with_reducible rfl
            rotate_left
            · simp only [Act.put, List.setIfInBounds_toArray, List.set_cons_zero, List.set_cons_succ, i64_w, i32_w]
              rfl
            refine pure_ (i := 2) (N := some 76) (v := ?_) (a' := ?_) (mkB 6 7) rfl rfl (by kernel_rfl) (fun _ _ _ h => h) (Or.inl ⟨by rfl, ?_⟩) ?_ ?_
            rotate_left
            · intro w'
              go_simp
              with_reducible rfl
            rotate_left
            · simp only [Act.put, List.setIfInBounds_toArray, List.set_cons_zero, List.set_cons_succ, i64_w, i32_w]
              rfl
            refine pure_ (i := 4) (N := some 2) (v := ?_) (a' := ?_) (mkB 6 23) rfl rfl (by kernel_rfl) (fun _ _ _ h => h) (Or.inl ⟨by rfl, ?_⟩) ?_ ?_
            rotate_left
            · intro w'
              go_simp
              with_reducible rfl
            rotate_left
            · simp only [Act.put, List.setIfInBounds_toArray, List.set_cons_zero, List.set_cons_succ, i64_w, i32_w]
              rfl
            refine take_ (i := 3) (N := some 77) (v := ?_) (a' := ?_) (mkB 6 31) rfl rfl (by kernel_rfl) (fun _ _ _ h => h) (Or.inl ⟨by rfl, ?_⟩) hHeld ?_ ?_
            rotate_left
            · intro w' s0
              go_simp
              with_reducible rfl
            rotate_left
            · simp only [Act.put, List.setIfInBounds_toArray, List.set_cons_zero, List.set_cons_succ, i64_w, i32_w]
              rfl
            refine pure_ (i := 5) (N := some 3) (v := ?_) (a' := ?_) (mkB 6 63) rfl rfl (by kernel_rfl) (fun _ _ _ h => h) (Or.inl ⟨by rfl, ?_⟩) ?_ ?_
            rotate_left
            · intro w'
              go_simp
              with_reducible rfl
            rotate_left
            · simp only [Act.put, List.setIfInBounds_toArray, List.set_cons_zero, List.set_cons_succ, i64_w, i32_w]
              rfl
            refine done_ (by kernel_rfl) ?_
            try go_wp2
            go_ret2
            exact ⟨_, by first | rfl | (simp [errW_none, errW_some] <;> rfl) | (simp [*, errW_none, errW_some] <;> rfl), by (with_reducible repeat (first | apply Kd.R_alloc | apply Kd.R_drewN | apply Kd.R_drew)); exact Kd.R_mono HO_2.out (fun _ hk => trivial), by repeat (first | (with_reducible first | exact HI0.out | apply IsS84.alloc | apply IsS84.drewN | apply IsS84.drew | apply IsS84.set_1 | apply IsS84.set_2) | exact HI0.out), by repeat (first | (with_reducible first | exact HB.out | apply below_alloc | apply pw_below_drewN | apply below_drew1 | refine below_set ?_ (IsS84.ge HI0.out)) | exact HB.out), by repeat (first | (with_reducible first | exact HK.out | apply KeepBut.set_ | apply keep_drewN | apply keep_drew | apply keep_alloc) | exact HK.out)⟩
          rw [if_pos c28] at H
          have c28b0 : decide (x58_2 < (s0_0.length : Int)) = true := decide_eq_true c28
          (try (have c28b0h := c28b0; simp only [hl5_1] at c28b0h))
          clear c28
          by_cases c29 : 0 ≤ x58_2
          rotate_left
          · rw [if_neg c29] at H
            exact absurd H (by simp)
          rw [if_pos c29] at H
          have c29b0 : decide (0 ≤ x58_2) = true := decide_eq_true c29
          clear c29
          by_cases c30 : x58_2 < (x5_1.length : Int)
          rotate_left
          · rw [if_neg c30] at H
            exact absurd H (by simp)
          rw [if_pos c30] at H
          have c30b0 : decide (x58_2 < (x5_1.length : Int)) = true := decide_eq_true c30
          (try (have c30b0h := c30b0; simp only [hl5_1] at c30b0h))
          clear c30
          by_cases c31 : x58_2 < (t101.length : Int)
          rotate_left
          · rw [if_neg c31] at H
            exact absurd H (by simp)
          rw [if_pos c31] at H
          have c31b0 : decide (x58_2 < (t101.length : Int)) = true := decide_eq_true c31
          (try (have c31b0h := c31b0; simp only [hl5_1] at c31b0h))
          clear c31
          by_cases c32 : x2_2.length < 17592186044416
          rotate_left
          · rw [if_neg c32] at H
            exact absurd H (by simp)
          rw [if_pos c32] at H
          have LMc32 := Aside0.mk c32
          clear c32
          obtain ⟨y119, hy119⟩ : ∃ y_ : List Int, y_ = (x2_2 ++ [wrap64 ((rd x5_1 x58_2) * (rd t101 x58_2))]) := ⟨_, rfl⟩
          replace H : (pull_layout_anchors.l2 k2 y119 t101 x5_1 (s0_0.length : Int) (wrap64 (x58_2 + 1)) s0_0 x1001_1 x1002_1) = some (r1, r2, r3, r4) := by first | (rw [hy119]; with_reducible exact H) | (have H2_ := (Option.bind_some _ _).symm.trans H; rw [hy119]; with_reducible exact H2_) | (have H2_ := (Option.bind_some _ _).symm.trans H; with_reducible exact H2_) | with_reducible exact H | (rw [hy119]; exact H) | exact H
          have Ny119 := Aside0.mk hy119
          clear hy119
          have H' := Aside0.mk H
          clear H
          try go_wp2
          have n0_ := Aside0.mk (Kd.R_drew HO_2.out)
          have n1_ := Aside0.mk (Kd.R_drew HO_4.out)
          have n2_ := Aside0.mk (Kd.R_drew HO_5.out)
          have n3_ := Aside0.mk (IsS84.drew HI0.out)
          have n4_ := Aside0.mk (keep_drew HK.out)
          have n5_ := Aside0.mk (below_drew1 HB.out)
          clear HO_2
          clear HO_4
          clear HO_5
          clear HI0
          clear HK
          clear HB
          have HO_2 := n0_
          have HO_4 := n1_
          have HO_5 := n2_
          have HI0 := n3_
          have HK := n4_
          have HB := n5_
          clear n0_ n1_ n2_ n3_ n4_ n5_
          have p117 : 0 ≤ (x58_2 : Int) := of_decide_eq_true (by first | (with_reducible assumption) | assumption)
          have q117 : x58_2 < (x5_1.length : Int) := of_decide_eq_true (by first | (with_reducible assumption) | assumption)
          obtain ⟨ad117, e117, hx117_0⟩ := Kd.at_int (Kd.R_reads' HO_5.out).2.2 x58_2 p117 q117
          obtain rfl : (⟨go6, 0, none⟩ : Addr) = ad117 := (by injection e117)
          (first | simp only [add_plain] at hx117_0 | simp only [add_at] at hx117_0 | simp only [Addr.add, Nat.zero_add] at hx117_0 | skip)
          replace p117 := eq_true p117
          replace q117 := eq_true q117
          obtain ⟨Ao34, co34, eo34⟩ := Kd.R_slice HO_4.out
          (first | subst eo34 | (injection eo34 with f1_ f2_ f3_; have f4_ := f1_.symm; have f5_ := f3_.symm; clear f1_ f2_ f3_; subst f4_; subst f5_))
          have p118 : 0 ≤ (x58_2 : Int) := of_decide_eq_true (by first | (with_reducible assumption) | assumption)
          have q118 : x58_2 < (t101.length : Int) := of_decide_eq_true (by first | (with_reducible assumption) | assumption)
          obtain ⟨ad118, e118, hx118_0⟩ := Kd.at_int (Kd.R_reads' HO_4.out).2.2 x58_2 p118 q118
          cases e118
          replace p118 := eq_true p118
          replace q118 := eq_true q118
          refine start_ (n := 13) (S := fun w' => w'.cell? ⟨go6, (x58_2).toNat, none⟩ = some (.int .i64 (rd x5_1 x58_2)) ∧ w'.cell? (ad118.add (x58_2).toNat) = some (.int .i64 (rd t101 x58_2))) (ds := [10, 11]) (mkB 13 0) (by kernel_rfl) rfl rfl ⟨hx117_0, hx118_0⟩ (fun hHeld => ?_); refine with_tabW pull_layout_anchors.tab18 pull_layout_anchors.bits18 (fun HT_ HW_ => ?_)
          generalize wr.drew = w33 at HO_2 HO_4 HO_5 HI0 HK HB hx117_0 hx118_0 hHeld ⊢
          refine pr_ 0 (some 61) (mkB 13 1) HT_ ?_
          refine pr_ 1 (some 62) (mkB 13 3) HT_ ?_
          refine pr_ 2 (some 63) (mkB 13 7) HT_ ?_
          refine pr_ 3 (some 64) (mkB 13 15) HT_ ?_
          refine pr_ 5 (some 66) (mkB 13 47) HT_ ?_
          refine pr_ 6 (some 67) (mkB 13 111) HT_ ?_
          refine pr_ 7 (some 68) (mkB 13 239) HT_ ?_
          refine take_ (i := 4) (N := some 65) (v := ?_) (a' := ?_) (mkB 13 255) rfl rfl (take_ofW HT_.out HW_.out (by kernel_rfl)) (fun _ _ _ h => h) (Or.inl ⟨by rfl, ?_⟩) hHeld ?_ ?_
          rotate_left
          · rintro w' ⟨s0, s1⟩
            go_simp
            with_reducible rfl
          rotate_left
          · simp only [Act.put, List.setIfInBounds_toArray, List.set_cons_zero, List.set_cons_succ, i64_w, i32_w]
            rfl
          refine take_ (i := 8) (N := some 69) (v := ?_) (a' := ?_) (mkB 13 511) rfl rfl (take_ofW HT_.out HW_.out (by kernel_rfl)) (fun _ _ _ h => h) (Or.inl ⟨by rfl, ?_⟩) hHeld ?_ ?_
          rotate_left
          · rintro w' ⟨s0, s1⟩
            go_simp
            with_reducible rfl
          rotate_left
          · simp only [Act.put, List.setIfInBounds_toArray, List.set_cons_zero, List.set_cons_succ, i64_w, i32_w]
            rfl
          refine pr_ 9 (some 70) (mkB 13 1023) HT_ ?_
          refine last_ (i := 10) (N := some 71) (mkB 13 2047) rfl rfl (one_of HT_.out (by kernel_rfl)) (by decide) (fun K hK => ?_)
          refine value_ (w1 := ?_) (v := ?_) (by rfl) rfl ?_ ?_
          rotate_left 2
          · go_simp
            constructor
            · rfl
            · rfl
          refine hK.out _ _ ?_
          clear hK K
          refine norm_ (a' := ?_) ?_ ?_
          rotate_left
          · show Act.put _ (some 71) _ = _
            simp only [Act.put, List.setIfInBounds_toArray, List.set_cons_zero, List.set_cons_succ, i64_w, i32_w]
            rfl
          refine last_ (i := 11) (N := some 72) (mkB 13 4095) rfl rfl (one_of HT_.out (by kernel_rfl)) (by decide) (fun K hK => ?_)
          refine Kd.R_append_step (Kd.int .i64) w.heap.size (by rfl) (.tmp 61) (.tmp 71) 37 3 (.int .i64 0) 8 rfl Try.underlying37 info3 rfl (by decide) (by omega) u2 x2_2 (wrap64 ((rd x5_1 x58_2) * (rd t101 x58_2))) [.int .i64 (wrap64 ((rd x5_1 x58_2) * (rd t101 x58_2)))] (fun k_ => some k_ ≠ (.slice (some ad118) t101.length co34 : Value).ownBlock ∧ some k_ ≠ (.slice (some ⟨go6, 0, none⟩) x5_1.length co6 : Value).ownBlock) (fun _ => False) rfl rfl ?aP (fun _ hk => hk.elim) ?aF ?aO (Below.refl _ _) ?aS ?aL ?_
          (case aP => exact rfl)
          (case aF => exact (fun k_ hk => ⟨Kd.fresh' (Kd.R_lt (by (with_reducible repeat (first | apply Kd.R_alloc | apply Kd.R_drewN | apply Kd.R_drew)); exact HO_4.out)) k_ hk, Kd.fresh' (Kd.R_lt (by (with_reducible repeat (first | apply Kd.R_alloc | apply Kd.R_drewN | apply Kd.R_drew)); exact HO_5.out)) k_ hk⟩))
          (case aO => exact (by (with_reducible repeat (first | apply Kd.R_alloc | apply Kd.R_drewN | apply Kd.R_drew)); exact HO_2.out))
          (case aS => exact (keep_size (w := w) (g := g) (row := none) (by repeat (first | (with_reducible first | exact HK.out | apply KeepBut.set_ | apply keep_drewN | apply keep_drew | apply keep_alloc) | exact HK.out))))
          (case aL => have := LMc32.out; omega)
          intro v120 w35 ho hb hg hat
          rw [← Ny119.out] at ho
          have n0_ := Aside0.mk (Kd.R_after (ok := (fun k_ => some k_ ≠ (.slice (some ⟨go6, 0, none⟩) x5_1.length co6 : Value).ownBlock)) (by (with_reducible repeat (first | apply Kd.R_alloc | apply Kd.R_drewN | apply Kd.R_drew)); exact Kd.R_mono HO_4.out (fun _ hk => ⟨hk.2, hk.1⟩)) hg hat)
          have n1_ := Aside0.mk (Kd.R_after (ok := (fun k_ => some k_ ≠ (.slice (some ad118) t101.length co34 : Value).ownBlock)) (by (with_reducible repeat (first | apply Kd.R_alloc | apply Kd.R_drewN | apply Kd.R_drew)); exact Kd.R_mono HO_5.out (fun _ hk => ⟨hk.2, hk.1⟩)) hg hat)
          have n2_ := Aside0.mk (IsS84.grown (by repeat (first | (with_reducible first | exact HI0.out | apply IsS84.alloc | apply IsS84.drewN | apply IsS84.drew | apply IsS84.set_1 | apply IsS84.set_2) | exact HI0.out)) hg (IsS84.own_ne HI0.out HO_2.out (by decide)))
          have n3_ := Aside0.mk (below_weaken (by repeat (first | (with_reducible first | exact HB.out | apply below_alloc | apply pw_below_drewN | apply below_drew1 | refine below_set ?_ (IsS84.ge HI0.out)) | exact HB.out)) HL.out hb)
          have n4_ := Aside0.mk (KeepBut.trans (by repeat (first | (with_reducible first | exact HK.out | apply KeepBut.set_ | apply keep_drewN | apply keep_drew | apply keep_alloc) | exact HK.out)) (KeepBut.of_grown hg g) (Kd.R_base2 HO_2.out))
          have n5_ := Aside0.mk (ho)
          clear HO_4
          clear HO_5
          clear HI0
          clear HB
          clear HK
          clear HO_2
          have HO_4 := n0_
          have HO_5 := n1_
          have HI0 := n2_
          have HB := n3_
          have HK := n4_
          have HO121 := n5_
          clear n0_ n1_ n2_ n3_ n4_ n5_
          clear ho hb hg hat
          refine hK.out _ _ ?_
          clear hK K
          refine norm_ (a' := ?_) ?_ ?_
          rotate_left
          · show Act.put _ (some 72) _ = _
            simp only [Act.put, List.setIfInBounds_toArray, List.set_cons_zero, List.set_cons_succ, i64_w, i32_w]
            rfl
          refine pr_ 12 (some 2) (mkB 13 8191) HT_ ?_
          refine done_ (done_of HT_.out (by kernel_rfl)) ?_
          try go_wp2
          go_roundg k2
          case measure => have := HK1.out; have := HK2.out; omega
          case rel => exact ⟨(y119), (wrap64 (x58_2 + 1)), (by first | rfl | (simp; done) | (simp [*]; done)), H', ⟨by have := HK1.out; have := HK2.out; omega⟩, ⟨by (try simp only [hl5_1]); (with_reducible repeat (first | apply Kd.R_alloc | apply Kd.R_drewN | apply Kd.R_drew)); exact HO121.out⟩, ⟨by (try simp only [hl5_1]); (with_reducible repeat (first | apply Kd.R_alloc | apply Kd.R_drewN | apply Kd.R_drew)); exact Kd.R_mono HO_4.out (fun _ hk => ⟨hk.2, hk.1⟩)⟩, ⟨by (try simp only [hl5_1]); (with_reducible repeat (first | apply Kd.R_alloc | apply Kd.R_drewN | apply Kd.R_drew)); exact Kd.R_mono HO_5.out (fun _ hk => ⟨hk.2, hk.1⟩)⟩, ⟨by repeat (first | (with_reducible first | exact HI0.out | apply IsS84.alloc | apply IsS84.drewN | apply IsS84.drew | apply IsS84.set_1 | apply IsS84.set_2) | exact HI0.out)⟩, ⟨by repeat (first | (with_reducible first | exact HK.out | apply KeepBut.set_ | apply keep_drewN | apply keep_drew | apply keep_alloc) | exact HK.out)⟩, ⟨by repeat (first | (with_reducible first | exact HB.out | apply below_alloc | apply pw_below_drewN | apply below_drew1 | refine below_set ?_ (IsS84.ge HI0.out)) | exact HB.out)⟩⟩
end Go.Proofs.Ytiebfmenkpodeaa.G
