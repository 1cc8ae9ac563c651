-- Written by this session's driver (wip/tools/printmore.py) over the kit's print, with hand-written parts.
import Derived.Test.YtciepmpadcpkbaaGBase
namespace Go.Proofs.Ytciepmpadcpkbaa.G
open Go.RowKit Go.Proofs.YtciepmpadcpkbaaW.PrintWords Go.Proofs.YtciepmpadcpkbaaW.PrintLast Go.Proofs.YtciepmpadcpkbaaW.PrintMore
attribute [local go_sem] max2_int min2_int max_two min_two max_three min_three max_four min_four   -- for this text's walks alone
set_option linter.unusedVariables false
set_option linter.unusedSimpArgs false

/-! ### wire_placed: function 65 -/
def wire_placed.l0 : Nat → List (S72) → Int → Int → List Int → Int → Option (List Int)
 | 0, _, _, _, _, _ => none
 | k + 1, x0, x1, x2, x7, x8 => if x8 < (x0.length : Int) then (if 0 ≤ (wrap64 (x8 - 1)) then (if (wrap64 (x8 - 1)) < (x7.length : Int) then (if 0 ≤ x8 then (if (wrap64 (x8 - 1)) < (x0.length : Int) then (if x2 = 0 then (none) else (if x8 < (x7.length : Int) then (wire_placed.l0 k x0 x1 x2 (x7.set (x8 : Int).toNat (wrap64 ((rd x7 (wrap64 (x8 - 1))) + (wrap64 (Int.tdiv (wrap64 (x1 * (wrap64 (((rd_T72 x0 x8).f0) - ((rd_T72 x0 (wrap64 (x8 - 1))).f0))))) x2))))) (wrap64 (x8 + 1))) else (none))) else (none)) else (none)) else (none)) else (none)) else (some x7)
def wire_placed.f (k : Nat) (l0 : List (S72)) (a1 : Int) (a2 : Int) : Option (List Int) := if 0 ≤ (l0.length : Int) then (if ((l0.length : Int) : Int).toNat ≤ 35184372088832 then (wire_placed.l0 k l0 a1 a2 (List.replicate ((l0.length : Int) : Int).toNat 0) 1) else (none)) else (none)
theorem wire_placed.mono_l : ∀ k, (∀ y0 y1 y2 y3 y4, LeO (wire_placed.l0 k y0 y1 y2 y3 y4) (wire_placed.l0 (k + 1) y0 y1 y2 y3 y4))
 | 0 => fun _ _ _ _ _ r h => by simp [wire_placed.l0] at h
 | k + 1 => by
  have ih0 := wire_placed.mono_l k
  ·intro y0 y1 y2 y3 y4
   unfold wire_placed.l0
   repeat' first
   | (with_reducible exact ih0 _ _ _ _ _)
   | (with_reducible exact LeO.refl _)
   | (with_reducible exact LeO.none _)
   | (with_reducible refine LeO.ite ?_ ?_)
   | (with_reducible refine LeO.bind ?_ (fun _ => ?_))
   | exact ih0 _ _ _ _ _
   | exact LeO.none _
   | refine LeO.ite ?_ ?_
   | refine LeO.bind ?_ (fun _ => ?_)
theorem wire_placed.mono : ∀ a0 a1 a2 k, LeO (wire_placed.f k a0 a1 a2) (wire_placed.f (k + 1) a0 a1 a2) := by
 intro a0 a1 a2 k
 have ih0 := wire_placed.mono_l k
 unfold wire_placed.f
 repeat' first
   | (with_reducible exact ih0 _ _ _ _ _)
   | (with_reducible exact LeO.refl _)
   | (with_reducible exact LeO.none _)
   | (with_reducible refine LeO.ite ?_ ?_)
   | (with_reducible refine LeO.bind ?_ (fun _ => ?_))
   | exact ih0 _ _ _ _ _
   | exact LeO.none _
   | refine LeO.ite ?_ ?_
   | refine LeO.bind ?_ (fun _ => ?_)
def wire_placed.T5 : Bool × List (List Nat × List Nat) := (true, [([], []), ([], []), ([], []), ([], []), ([3], [3]), ([2, 4], [2, 4]), ([5], [5]), ([], []), ([], []), ([], []), ([8, 9], [8, 9]), ([10], [10]), ([11], [11]), ([], []), ([], []), ([14], [14]), ([13, 15], [13, 15]), ([16], [16]), ([17], [17]), ([12, 18], [12, 18]), ([7, 19], [7, 19]), ([], []), ([20, 21], [20, 21]), ([6, 22], [6, 22]), ([0, 1, 0, 1, 2, 3, 4, 5, 6, 7, 8, 9, 10, 11, 12, 13, 14, 15, 16, 17, 18, 19, 20, 21, 22, 23], [0, 1]), ([24, 23, 0, 1, 2, 3, 4, 5, 6, 7, 8, 9, 10, 11, 12, 13, 14, 15, 16, 17, 18, 19, 20, 21, 22, 23], [23, 24])])
def wire_placed.B5 : List Nat := [0, 0, 0, 0, 8, 28, 60, 0, 0, 0, 768, 1792, 3840, 0, 0, 16384, 57344, 122880, 253952, 524032, 1048448, 0, 4194176, 8388604, 16777215, 33554431]
theorem wire_placed.tab5 : rtab .any (opsOf Try.f65 5) = wire_placed.T5 := by kernel_rfl
theorem wire_placed.bits5 : waitsOk wire_placed.T5.2 wire_placed.B5 = true := by kernel_rfl
set_option maxHeartbeats 8000000 in
set_option maxRecDepth 100000 in
theorem wire_placed.calls (k : Nat) (A0 : Option Addr) (c0 : Nat) (l0 : List (S72)) (a1 : Int) (a2 : Int) (r : List Int) (w : World) (hr0 : Kd.C k72 w A0 l0.length l0) (hc0 : l0.length ≤ c0) (h : wire_placed.f k l0 a1 a2 = some r) :
  Calls Try.prog 65 #[.slice A0 l0.length c0, .int .i64 a1, .int .i64 a2] w fun e w' => ∃ v0_ : Value, e = .returned (v0_) ∧ Kd.R (Kd.int .i64) 3 w' w.heap.size (fun _ => True) v0_ r ∧ Below w.heap.size w w' := by
 have HR0 := A_ hr0
 have HC0 := A_ hc0
 clear hr0 hc0
 have HB := A_ (Below.refl w.heap.size w)
 have H : (if 0 ≤ (l0.length : Int) then (if ((l0.length : Int) : Int).toNat ≤ 35184372088832 then (wire_placed.l0 k l0 a1 a2 (List.replicate ((l0.length : Int) : Int).toNat 0) 1) else (none)) else (none)) = some r := h
 clear h
 by_cases c4 : 0 ≤ (l0.length : Int)
 rotate_left
 ·rw [if_neg c4] at H
  exact absurd H (by simp)

 rw [if_pos c4] at H
 have c4b0 := eq_true c4
 have c4b1 : decide (0 ≤ (l0.length : Int)) = true := decide_eq_true c4
 clear c4
 by_cases c5 : ((l0.length : Int) : Int).toNat ≤ 35184372088832
 rotate_left
 ·rw [if_neg c5] at H
  exact absurd H (by simp)
 rw [if_pos c5] at H
 have c5b0 := eq_true c5
 have c5b1 : decide (((l0.length : Int) : Int).toNat ≤ 35184372088832) = true := decide_eq_true c5
 clear c5
 obtain ⟨y101, hy101⟩ : ∃ y_ : List Int, y_ = (List.replicate ((l0.length : Int) : Int).toNat 0) := ⟨_, rfl⟩
 replace H : (wire_placed.l0 k l0 a1 a2 y101 1) = some r := by first | (rw [hy101]; with_reducible exact H) | (have H2_ := (Option.bind_some _ _).symm.trans H; rw [hy101]; with_reducible exact H2_) | (have H2_ := (Option.bind_some _ _).symm.trans H; with_reducible exact H2_) | with_reducible exact H | (rw [hy101]; exact H) | exact H
 have Ny101 := A_ hy101
 clear hy101
 have H' := A_ H
 clear H
 go_enter Try.func65, Try.ntmps65
 go_wp2_with (first | ((with_reducible refine gate_dst (N := 11) rfl ?_); refine Kd.R_make (Kd.int .i64) _ 3 rfl (N := 11) rfl 73 _ _ rfl (l0.length : Int) rfl rfl Try.underlying73 (.int .i64 0) 8 info3 rfl (by decide) (by omega) 0 (ok := fun _ => True) (okp := fun _ => True) rfl (fun _ hk => hk) trivial (of_decide_eq_true (by first | (with_reducible assumption) | assumption)) (Nat.le_trans (Nat.mul_le_mul_right _ (of_decide_eq_true (by first | (with_reducible assumption) | assumption) : (l0.length : Int).toNat ≤ 35184372088832)) (by omega)) (Below.refl _ _) (Nat.le_refl _) ?_; intro v102 w6 ho7 hb hg_ hnew_; clear hg_ hnew_; (first | rw [← Ny101.out] at ho7 | (simp only [Int.reduceToNat] at ho7; rw [← Ny101.out] at ho7)); have n0_ := A_ (Kd.R_lower ho7 (below_size (bW0 HB.out))); have n1_ := A_ (below_step (bW0 HB.out) hb); clear HB; have HO103 := n0_; have HB := n1_; clear n0_ n1_; clear hb ho7))
 go_loopg [8] k (fun kq v8 w' => ∃ (x7_1 : List Int) (x8_1 : Int), v8 = .int .i64 x8_1 ∧ Aside0 (wire_placed.l0 kq l0 a1 a2 x7_1 x8_1 = some r) ∧ Aside0 (kq ≤ k) ∧ Aside0 (Kd.R (Kd.int .i64) 3 w' w.heap.size (fun _ => True) v102 x7_1) ∧ Aside0 (Below w.heap.size w w'))
 case atStart => exact ⟨(y101), (1), (by first | rfl | (simp; done) | (simp [*]; done)), H', ⟨Nat.le_refl _⟩, ⟨rU HO103.out⟩, ⟨by repeat (first | (with_reducible first | exact HB.out | apply below_alloc | apply pw_below_drewN | apply below_drew1) | exact HB.out)⟩⟩
 case round =>
  clear H'
  try clear p2
  try clear c4
  try clear c4b0
  try clear c4b1
  try clear c5
  try clear c5b0
  try clear c5b1
  try clear c6
  obtain ⟨x7_1, x8_1, rfl, HA, HK1, HO_7, HB⟩ := hrel
  cases gk with
  | zero => exact absurd HA.out (by simp [wire_placed.l0])
  | succ k1 =>
   have H := HA.out
   clear HA
   simp only [wire_placed.l0] at H
   by_cases c8 : x8_1 < (l0.length : Int)
   rotate_left
   ·rw [if_neg c8] at H
    have c8b0 : decide (x8_1 < (l0.length : Int)) = false := decide_eq_false c8
    clear c8
    obtain rfl := Option.some.inj H
    go_wp2
    go_ret
    exact ⟨_, by first | rfl | (simp [errW_none, errW_some] <;> rfl) | (simp [*, errW_none, errW_some] <;> rfl), by (with_reducible repeat (first | apply Kd.R_alloc | apply Kd.R_drewN | apply Kd.R_drew)); exact HO_7.out, by repeat (first | (with_reducible first | exact HB.out | apply below_alloc | apply pw_below_drewN | apply below_drew1) | exact HB.out)⟩
   rw [if_pos c8] at H
   have c8b0 : decide (x8_1 < (l0.length : Int)) = true := decide_eq_true c8
   clear c8
   obtain ⟨ji9, hji9⟩ : ∃ j_ : Int, (wrap64 (x8_1 - 1)) = j_ := ⟨_, rfl⟩
   replace H : (if 0 ≤ (ji9) then (if (ji9) < (x7_1.length : Int) then (if 0 ≤ x8_1 then (if (ji9) < (l0.length : Int) then (if a2 = 0 then (none) else (if x8_1 < (x7_1.length : Int) then (wire_placed.l0 k1 l0 a1 a2 (x7_1.set (x8_1 : Int).toNat (wrap64 ((rd x7_1 (ji9)) + (wrap64 (Int.tdiv (wrap64 (a1 * (wrap64 (((rd_T72 l0 x8_1).f0) - ((rd_T72 l0 (ji9)).f0))))) a2))))) (wrap64 (x8_1 + 1))) else (none))) else (none)) else (none)) else (none)) else (none)) = some r := by first | (rw [hji9] at H; exact H) | (simp only [hji9] at H ⊢; exact H)
   have hji9w : (IntKind.i64.wrap (x8_1 - 1)) = ji9 := (i64_w _).trans hji9
   by_cases c10 : 0 ≤ (ji9)
   rotate_left
   ·rw [if_neg c10] at H
    exact absurd H (by simp)
   rw [if_pos c10] at H
   have c10b0 : decide (0 ≤ (ji9)) = true := decide_eq_true c10
   clear c10
   by_cases c11 : (ji9) < (x7_1.length : Int)
   rotate_left
   ·rw [if_neg c11] at H
    exact absurd H (by simp)
   rw [if_pos c11] at H
   have c11b0 : decide ((ji9) < (x7_1.length : Int)) = true := decide_eq_true c11
   clear c11
   by_cases c12 : 0 ≤ x8_1
   rotate_left
   ·rw [if_neg c12] at H
    exact absurd H (by simp)
   rw [if_pos c12] at H
   have c12b0 : decide (0 ≤ x8_1) = true := decide_eq_true c12
   clear c12
   by_cases c13 : (ji9) < (l0.length : Int)
   rotate_left
   ·rw [if_neg c13] at H
    exact absurd H (by simp)
   rw [if_pos c13] at H
   have c13b0 : decide ((ji9) < (l0.length : Int)) = true := decide_eq_true c13
   clear c13
   by_cases c14 : a2 = 0
   ·rw [if_pos c14] at H
    exact absurd H (by simp)
   rw [if_neg c14] at H
   have c14b0 : (a2 == 0) = false := beq_eq_false_iff_ne.mpr c14
   have c14b1 : (a2 != 0) = true := bne_iff_ne.mpr c14
   by_cases c15 : x8_1 < (x7_1.length : Int)
   rotate_left
   ·rw [if_neg c15] at H
    exact absurd H (by simp)
   rw [if_pos c15] at H
   have c15b0 : decide (x8_1 < (x7_1.length : Int)) = true := decide_eq_true c15
   clear c15
   obtain ⟨y107, hy107⟩ : ∃ y_ : List Int, y_ = (x7_1.set (x8_1 : Int).toNat (wrap64 ((rd x7_1 (ji9)) + (wrap64 (Int.tdiv (wrap64 (a1 * (wrap64 (((rd_T72 l0 x8_1).f0) - ((rd_T72 l0 (ji9)).f0))))) a2))))) := ⟨_, rfl⟩
   replace H : (wire_placed.l0 k1 l0 a1 a2 y107 (wrap64 (x8_1 + 1))) = some r := by first | (rw [hy107]; with_reducible exact H) | (have H2_ := (Option.bind_some _ _).symm.trans H; rw [hy107]; with_reducible exact H2_) | (have H2_ := (Option.bind_some _ _).symm.trans H; with_reducible exact H2_) | with_reducible exact H | (rw [hy107]; exact H) | exact H
   have Ny107 := A_ hy107
   clear hy107
   have H' := A_ H
   clear H
   try go_wp2
   have n0_ := A_ (Kd.R_drew HO_7.out)
   have n1_ := A_ (below_drew1 HB.out)
   clear HO_7
   clear HB
   have HO_7 := n0_
   have HB := n1_
   clear n0_ n1_
   obtain ⟨Ao18, co18, eo18⟩ := Kd.R_slice HO_7.out
   (first | subst eo18 | (injection eo18 with f1_ f2_ f3_; have f4_ := f1_.symm; have f5_ := f3_.symm; clear f1_ f2_ f3_; subst f4_; subst f5_))
   have p104 : 0 ≤ ((ji9) : Int) := of_decide_eq_true (by first | (with_reducible assumption) | assumption)
   have q104 : (ji9) < (x7_1.length : Int) := of_decide_eq_true (by first | (with_reducible assumption) | assumption)
   obtain ⟨ad104, e104, hx104_0⟩ := Kd.at_int (Kd.R_reads' HO_7.out).2.2 (ji9) p104 q104
   cases e104
   replace p104 := eq_true p104
   replace q104 := eq_true q104
   have p105 : 0 ≤ (x8_1 : Int) := of_decide_eq_true (by first | (with_reducible assumption) | assumption)
   have q105 : x8_1 < (l0.length : Int) := of_decide_eq_true (by first | (with_reducible assumption) | assumption)
   obtain ⟨ad105, e105, hx105_0, hx105_1, hx105_2⟩ := at_T72 HR0.out x8_1 p105 q105
   have hw105_2 := hx105_2
   have hw105_1 := hx105_1
   have hw105_0 := hx105_0
   cases e105
   replace hx105_0 := (HB.out.cell (World.block_lt_of_cell? w _ hx105_0)).trans hx105_0
   replace hx105_1 := (HB.out.cell (World.block_lt_of_cell? w _ hx105_1)).trans hx105_1
   replace hx105_2 := (HB.out.cell (World.block_lt_of_cell? w _ hx105_2)).trans hx105_2
   replace p105 := eq_true p105
   replace q105 := eq_true q105
   have p106 : 0 ≤ ((ji9) : Int) := of_decide_eq_true (by first | (with_reducible assumption) | assumption)
   have q106 : (ji9) < (l0.length : Int) := of_decide_eq_true (by first | (with_reducible assumption) | assumption)
   obtain ⟨ad106, e106, hx106_0, hx106_1, hx106_2⟩ := at_T72 HR0.out (ji9) p106 q106
   have hw106_2 := hx106_2
   have hw106_1 := hx106_1
   have hw106_0 := hx106_0
   obtain rfl : ad105 = ad106 := (by injection e106)
   replace hx106_0 := (HB.out.cell (World.block_lt_of_cell? w _ hx106_0)).trans hx106_0
   replace hx106_1 := (HB.out.cell (World.block_lt_of_cell? w _ hx106_1)).trans hx106_1
   replace hx106_2 := (HB.out.cell (World.block_lt_of_cell? w _ hx106_2)).trans hx106_2
   replace p106 := eq_true p106
   replace q106 := eq_true q106
   have p16 : 0 ≤ (x8_1 : Int) := of_decide_eq_true (by first | (with_reducible assumption) | assumption)
   have q16 : (x8_1 : Int) < ((x7_1.length : Int) : Int) := of_decide_eq_true (by first | (with_reducible assumption) | assumption)
   obtain ⟨go16, co16, eo16, gb16, gl16, cl16, HG16⟩ := Kd.R_form HO_7.out (by omega)
   (first | cases eo16 | (injection eo16 with ea_ en_ ec_; (first | subst ea_ | (injection ea_ with ea_; subst ea_)); subst ec_; clear en_))
   have GB16 := A_ gb16
   have GG16 := A_ HG16
   clear gb16 gl16 HG16
   (first | simp only [add_plain] at hx104_0 | skip)
   obtain ⟨hx16_0, hf16_0⟩ := Kd.R_celln 0 HO_7.out (x8_1 : Int) p16 q16
   replace p16 := eq_true p16
   replace q16 := eq_true q16
   have HP19 := Kd.R_putn HO_7.out (x8_1 : Int) (wrap64 ((rd x7_1 (ji9)) + (wrap64 (Int.tdiv (wrap64 (a1 * (wrap64 (((rd_T72 l0 x8_1).f0) - ((rd_T72 l0 (ji9)).f0))))) a2))))
   rw [← Ny107.out] at HP19
   have HQ19 := A_ HP19
   clear HP19
   refine start_ (n := 26) (S := fun w' => w'.cell? ⟨go16, ((ji9)).toNat, none⟩ = some (.int .i64 (rd x7_1 (ji9))) ∧ w'.cell? (ad105.add ((x8_1).toNat * 3)) = some (.int .i64 ((rd_T72 l0 x8_1).f0)) ∧ w'.cell? ⟨(ad105.add ((x8_1).toNat * 3)).block, (ad105.add ((x8_1).toNat * 3)).off + 1, none⟩ = some (.int .i64 ((rd_T72 l0 x8_1).f1)) ∧ w'.cell? ⟨(ad105.add ((x8_1).toNat * 3)).block, (ad105.add ((x8_1).toNat * 3)).off + 2, none⟩ = some (.int .i64 ((rd_T72 l0 x8_1).f2)) ∧ w'.cell? (ad105.add (((ji9)).toNat * 3)) = some (.int .i64 ((rd_T72 l0 (ji9)).f0)) ∧ w'.cell? ⟨(ad105.add (((ji9)).toNat * 3)).block, (ad105.add (((ji9)).toNat * 3)).off + 1, none⟩ = some (.int .i64 ((rd_T72 l0 (ji9)).f1)) ∧ w'.cell? ⟨(ad105.add (((ji9)).toNat * 3)).block, (ad105.add (((ji9)).toNat * 3)).off + 2, none⟩ = some (.int .i64 ((rd_T72 l0 (ji9)).f2))) (ds := [25]) (mkB 26 0) (by kernel_rfl) rfl rfl ⟨hx104_0, (pw_cell_below HB.out hw105_0), (pw_cell_below HB.out hw105_1), (pw_cell_below HB.out hw105_2), (pw_cell_below HB.out hw106_0), (pw_cell_below HB.out hw106_1), (pw_cell_below HB.out hw106_2)⟩ (fun hHeld => ?_); refine with_tabW wire_placed.tab5 wire_placed.bits5 (fun HT_ HW_ => ?_)
   generalize wr.drew = w17 at HO_7 HB GG16 HQ19 hf16_0 hx104_0 hx105_0 hx105_1 hx105_2 hx106_0 hx106_1 hx106_2 hx16_0 hHeld ⊢
   refine pr_ 0 (some 18) (mkB 26 1) HT_ ?_
   refine pr_ 1 (some 19) (mkB 26 3) HT_ ?_
   refine pr_ 2 (some 20) (mkB 26 7) HT_ ?_
   refine pr_ 3 (some 21) (mkB 26 15) HT_ ?_
   refine pr_ 4 (some 22) (mkB 26 31) HT_ ?_
   refine pr_ 5 (some 23) (mkB 26 63) HT_ ?_
   refine pr_ 7 (some 25) (mkB 26 191) HT_ ?_
   refine pr_ 8 (some 26) (mkB 26 447) HT_ ?_
   refine pr_ 9 (some 27) (mkB 26 959) HT_ ?_
   refine pr_ 10 (some 28) (mkB 26 1983) HT_ ?_
   refine pr_ 11 (some 29) (mkB 26 4031) HT_ ?_
   refine pr_ 13 (some 31) (mkB 26 12223) HT_ ?_
   refine pr_ 14 (some 32) (mkB 26 28607) HT_ ?_
   refine pr_ 15 (some 33) (mkB 26 61375) HT_ ?_
   refine pr_ 16 (some 34) (mkB 26 126911) HT_ ?_
   refine pr_ 17 (some 35) (mkB 26 257983) HT_ ?_
   refine pr_ 21 (some 39) (mkB 26 2355135) HT_ ?_
   refine take_ (i := 6) (N := some 24) (v := ?_) (a' := ?_) (mkB 26 2355199) rfl rfl (take_ofW HT_.out HW_.out (by kernel_rfl)) (fun _ _ _ h => h) (Or.inl ⟨by rfl, ?_⟩) hHeld ?_ ?_
   rotate_left
   ·rintro w' ⟨s0, s1, s2, s3, s4, s5, s6⟩
    go_simp
    with_reducible rfl
   rotate_left
   ·simp only [Act.put, List.setIfInBounds_toArray, List.set_cons_zero, List.set_cons_succ, i64_w, i32_w]
    rfl
   refine take_ (i := 12) (N := some 30) (v := ?_) (a' := ?_) (mkB 26 2359295) rfl rfl (take_ofW HT_.out HW_.out (by kernel_rfl)) (fun _ _ _ h => h) (Or.inl ⟨by rfl, ?_⟩) hHeld ?_ ?_
   rotate_left
   ·rintro w' ⟨s0, s1, s2, s3, s4, s5, s6⟩
    go_simp
    with_reducible rfl
   rotate_left
   ·simp only [Act.put, List.setIfInBounds_toArray, List.set_cons_zero, List.set_cons_succ, i64_w, i32_w]
    rfl
   refine take_ (i := 18) (N := some 36) (v := ?_) (a' := ?_) (mkB 26 2621439) rfl rfl (take_ofW HT_.out HW_.out (by kernel_rfl)) (fun _ _ _ h => h) (Or.inl ⟨by rfl, ?_⟩) hHeld ?_ ?_
   rotate_left
   ·rintro w' ⟨s0, s1, s2, s3, s4, s5, s6⟩
    go_simp
    with_reducible rfl
   rotate_left
   ·simp only [Act.put, List.setIfInBounds_toArray, List.set_cons_zero, List.set_cons_succ, i64_w, i32_w]
    rfl
   refine pr_ 19 (some 37) (mkB 26 3145727) HT_ ?_
   refine pr_ 20 (some 38) (mkB 26 4194303) HT_ ?_
   refine pr_ 22 (some 40) (mkB 26 8388607) HT_ ?_
   refine pr_ 23 (some 41) (mkB 26 16777215) HT_ ?_
   refine pr_ 24 (some 42) (mkB 26 33554431) HT_ ?_
   refine last_ (i := 25) (N := none) (mkB 26 67108863) rfl rfl (one_of HT_.out (by kernel_rfl)) (by decide) (fun K hK => ?_)
   refine skip_ (w1 := ?_) (by rfl) rfl ?_ ?_
   rotate_left
   ·go_simp
    rfl
   refine hK.out _ _ ?_
   clear hK K
   refine done_ (done_of HT_.out (by kernel_rfl)) ?_
   try go_wp2
   go_roundg k1
   case measure => have := HK1.out; omega
   case rel => exact ⟨(y107), (wrap64 (x8_1 + 1)), (by first | rfl | (simp; done) | (simp [*]; done)), H', ⟨by have := HK1.out; omega⟩, ⟨rU HQ19.out⟩, ⟨by repeat (first | (with_reducible first | exact HB.out | apply below_alloc | apply pw_below_drewN | apply below_drew1 | refine below_set ?_ GB16.out) | exact HB.out)⟩⟩
end Go.Proofs.Ytciepmpadcpkbaa.G
