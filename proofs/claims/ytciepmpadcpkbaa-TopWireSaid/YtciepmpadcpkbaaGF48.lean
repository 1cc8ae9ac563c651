-- Written by this session's driver (wip/tools/printmore.py) over the kit's print, with hand-written parts.
import Derived.Test.YtciepmpadcpkbaaGBase
import Derived.Test.YtciepmpadcpkbaaGF57
import Derived.Test.YtciepmpadcpkbaaGF54
import Derived.Test.YtciepmpadcpkbaaGF71
import Derived.Test.YtciepmpadcpkbaaGF74
namespace Go.Proofs.Ytciepmpadcpkbaa.G
open Go.RowKit Go.Proofs.YtciepmpadcpkbaaW.PrintWords Go.Proofs.YtciepmpadcpkbaaW.PrintLast Go.Proofs.YtciepmpadcpkbaaW.PrintMore
attribute [local go_sem] max2_int min2_int max_two min_two max_three min_three max_four min_four   -- for this text's walks alone
set_option linter.unusedVariables false
set_option linter.unusedSimpArgs false

/-! ### dropperref02_Fits: function 48 -/
def dropperref02_Fits.l0 : Nat → List (S72) → Int → Int → List Int → Int → Option (Bool × Int)
 | 0, _, _, _, _, _ => none
 | k + 1, x0, x1, x2, x3, x11 => if x11 < (x0.length : Int) then (if 0 ≤ x11 then (if x11 < (x3.length : Int) then ((dropperref02_from.f ((rd_T72 x0 x11).f1) (rd x3 x11) ((rd_T72 x0 x11).f2)).bind fun t106 => (if t106 = true then (if x11 > 0 then (if 0 ≤ (wrap64 (x11 - 1)) then (if (wrap64 (x11 - 1)) < (x3.length : Int) then ((dropperref02_steps.f k x0 x1 x2 (wrap64 (x11 - 1)) x11).bind fun t111 => (if (mx (wrap64 ((rd x3 x11) - (rd x3 (wrap64 (x11 - 1))))) (wrap64 ((rd x3 (wrap64 (x11 - 1))) - (rd x3 x11)))) > t111 then (some (false, 0)) else (dropperref02_Fits.l0 k x0 x1 x2 x3 (wrap64 (x11 + 1))))) else (none)) else (none)) else (dropperref02_Fits.l0 k x0 x1 x2 x3 (wrap64 (x11 + 1)))) else (some (false, 0)))) else (none)) else (none)) else (some (true, 0))
def dropperref02_Fits.f (k : Nat) (l0 : List (S72)) (a1 : Int) (a2 : Int) (l3 : List Int) : Option (Bool × Int) := (dropperref02_asked.f k l0 a1 a2).bind fun t101 => (if t101 = 0 then ((dropperref02_heights.f k l3 (l0.length : Int)).bind fun t102 => (if t102 = true then (dropperref02_Fits.l0 k l0 a1 a2 l3 0) else (some (false, 2)))) else (some (false, t101)))
theorem dropperref02_Fits.mono_l : ∀ k, (∀ y0 y1 y2 y3 y4, LeO (dropperref02_Fits.l0 k y0 y1 y2 y3 y4) (dropperref02_Fits.l0 (k + 1) y0 y1 y2 y3 y4))
 | 0 => fun _ _ _ _ _ r h => by simp [dropperref02_Fits.l0] at h
 | k + 1 => by
  have ih0 := dropperref02_Fits.mono_l k
  ·intro y0 y1 y2 y3 y4
   unfold dropperref02_Fits.l0
   repeat' first
   | (with_reducible exact ih0 _ _ _ _ _)
   | (with_reducible exact dropperref02_asked.mono _ _ _ _)
   | (with_reducible exact dropperref02_heights.mono _ _ _)
   | (with_reducible exact dropperref02_steps.mono _ _ _ _ _ _)
   | (with_reducible exact LeO.refl _)
   | (with_reducible exact LeO.none _)
   | (with_reducible refine LeO.ite ?_ ?_)
   | (with_reducible refine LeO.bind ?_ (fun _ => ?_))
   | exact ih0 _ _ _ _ _
   | exact dropperref02_asked.mono _ _ _ _
   | exact dropperref02_heights.mono _ _ _
   | exact dropperref02_steps.mono _ _ _ _ _ _
   | exact LeO.none _
   | refine LeO.ite ?_ ?_
   | refine LeO.bind ?_ (fun _ => ?_)
theorem dropperref02_Fits.mono : ∀ a0 a1 a2 a3 k, LeO (dropperref02_Fits.f k a0 a1 a2 a3) (dropperref02_Fits.f (k + 1) a0 a1 a2 a3) := by
 intro a0 a1 a2 a3 k
 have ih0 := dropperref02_Fits.mono_l k
 unfold dropperref02_Fits.f
 repeat' first
   | (with_reducible exact ih0 _ _ _ _ _)
   | (with_reducible exact dropperref02_asked.mono _ _ _ _)
   | (with_reducible exact dropperref02_heights.mono _ _ _)
   | (with_reducible exact dropperref02_steps.mono _ _ _ _ _ _)
   | (with_reducible exact LeO.refl _)
   | (with_reducible exact LeO.none _)
   | (with_reducible refine LeO.ite ?_ ?_)
   | (with_reducible refine LeO.bind ?_ (fun _ => ?_))
   | exact ih0 _ _ _ _ _
   | exact dropperref02_asked.mono _ _ _ _
   | exact dropperref02_heights.mono _ _ _
   | exact dropperref02_steps.mono _ _ _ _ _ _
   | exact LeO.none _
   | refine LeO.ite ?_ ?_
   | refine LeO.bind ?_ (fun _ => ?_)
def dropperref02_Fits.T9 : Bool × List (List Nat × List Nat) := (true, [([], []), ([], []), ([0, 1], [0, 1]), ([2], [2]), ([3], [3]), ([], []), ([], []), ([5, 6], [5, 6]), ([7], [7]), ([], []), ([], []), ([9, 10], [9, 10]), ([11], [11]), ([12], [12]), ([4, 8, 13], [4, 8, 13]), ([14], [14])])
def dropperref02_Fits.B9 : List Nat := [0, 0, 3, 7, 15, 0, 0, 96, 224, 0, 0, 1536, 3584, 7680, 16383, 32767]
theorem dropperref02_Fits.tab9 : rtab .any (opsOf Try.f48 9) = dropperref02_Fits.T9 := by kernel_rfl
theorem dropperref02_Fits.bits9 : waitsOk dropperref02_Fits.T9.2 dropperref02_Fits.B9 = true := by kernel_rfl
def dropperref02_Fits.T11 : Bool × List (List Nat × List Nat) := (true, [([], []), ([0], [0]), ([1], [1]), ([2], [2]), ([2], [2]), ([3, 4, 2], [2, 3, 4]), ([5, 2], [2, 5]), ([2], [2]), ([2], [2]), ([8, 2], [2, 8]), ([7, 9, 2], [2, 7, 9]), ([10, 2], [2, 10]), ([6, 11, 2], [2, 6, 11]), ([2], [2]), ([2], [2]), ([14, 2], [2, 14]), ([13, 15, 2], [2, 13, 15]), ([16, 2], [2, 16]), ([2], [2]), ([2], [2]), ([18, 19, 2], [2, 18, 19]), ([20, 2], [2, 20]), ([17, 21, 2], [2, 17, 21]), ([12, 22, 2], [2, 12, 22]), ([2], [2]), ([2], [2]), ([2], [2]), ([2], [2]), ([27, 2], [2, 27]), ([2], [2]), ([24, 25, 26, 28, 29, 2, 2], [2, 24, 25, 26, 28, 29]), ([23, 30, 2], [2, 23, 30]), ([2, 31], [2, 31])])
def dropperref02_Fits.B11 : List Nat := [0, 1, 3, 7, 7, 31, 63, 7, 7, 263, 903, 1927, 4095, 7, 7, 16391, 57351, 122887, 7, 7, 786439, 1835015, 4186119, 8388607, 7, 7, 7, 7, 134217735, 7, 1056964615, 2147483647, 4294967295]
theorem dropperref02_Fits.tab11 : rtab .any (opsOf Try.f48 11) = dropperref02_Fits.T11 := by kernel_rfl
theorem dropperref02_Fits.bits11 : waitsOk dropperref02_Fits.T11.2 dropperref02_Fits.B11 = true := by kernel_rfl
set_option maxHeartbeats 8000000 in
set_option maxRecDepth 100000 in
theorem dropperref02_Fits.calls (k : Nat) (A0 : Option Addr) (c0 : Nat) (l0 : List (S72)) (a1 : Int) (a2 : Int) (A3 : Option Addr) (c3 : Nat) (l3 : List Int) (r1 : Bool) (r2 : Int) (w : World) (hr0 : Kd.C k72 w A0 l0.length l0) (hc0 : l0.length ≤ c0) (hr3 : Kd.C (Kd.int .i64) w A3 l3.length l3) (hc3 : l3.length ≤ c3) (h : dropperref02_Fits.f k l0 a1 a2 l3 = some (r1, r2)) :
  Calls Try.prog 48 #[.slice A0 l0.length c0, .int .i64 a1, .int .i64 a2, .slice A3 l3.length c3] w fun e w' => e = .returned (.tuple #[.bool r1, .int .i64 r2]) ∧ Below w.heap.size w w' := by
 have HR0 := A_ hr0
 have HC0 := A_ hc0
 clear hr0 hc0
 have HR3 := A_ hr3
 have HC3 := A_ hc3
 clear hr3 hc3
 have HB := A_ (Below.refl w.heap.size w)
 have H : ((dropperref02_asked.f k l0 a1 a2).bind fun t101 => (if t101 = 0 then ((dropperref02_heights.f k l3 (l0.length : Int)).bind fun t102 => (if t102 = true then (dropperref02_Fits.l0 k l0 a1 a2 l3 0) else (some (false, 2)))) else (some (false, t101)))) = some (r1, r2) := h
 clear h
 replace H := Option.bind_eq_some_iff.mp H
 obtain ⟨t101, A50, H⟩ := H
 replace H : (if t101 = 0 then ((dropperref02_heights.f k l3 (l0.length : Int)).bind fun t102 => (if t102 = true then (dropperref02_Fits.l0 k l0 a1 a2 l3 0) else (some (false, 2)))) else (some (false, t101))) = some (r1, r2) := H
 have A5 := A_ A50
 clear A50
 by_cases c6 : t101 = 0
 rotate_left
 ·rw [if_neg c6] at H
  have c6b0 : (t101 == 0) = false := beq_eq_false_iff_ne.mpr c6
  have c6b1 : (t101 != 0) = true := bne_iff_ne.mpr c6
  simp only [Option.some.injEq, Prod.mk.injEq] at H
  obtain ⟨rfl, rfl⟩ := H
  go_enter Try.func48, Try.ntmps48
  go_wp2_with (first | ((with_reducible refine gate_callee (f := 54) rfl ?_); refine goesL_ (some 15) rfl rfl Try.func54 (by kernel_rfl) rfl #[.slice A0 l0.length c0, .int .i64 a1, .int .i64 a2] rfl (by (try simp only [List.map_toArray, List.map_cons, List.map_nil]); first | done | rfl | (simp only [List.length_drop, List.length_take]; rfl)) ?_; (with_reducible refine (dropperref02_asked.calls k _ _ l0 a1 a2 t101 _ ?side1 ?side2 A5.out).mono ?_); (case side1 => exact cU HR0.out); (case side2 => exact HC0.out); rintro e w32 ⟨rfl, hb⟩; refine ⟨_, rfl, ?_⟩; have n0_ := A_ (below_step (bW0 HB.out) hb); clear HB; have HB := n0_; clear n0_; (try clear hb); (try clear hb2); (try clear hk); (try clear hi)))
  go_ret2
  exact ⟨by first | rfl | (simp [errW_none, errW_some] <;> rfl) | (simp [*, errW_none, errW_some] <;> rfl), by repeat (first | (with_reducible first | exact HB.out | apply below_alloc | apply pw_below_drewN | apply below_drew1) | exact HB.out)⟩

 rw [if_pos c6] at H
 have c6b0 : (t101 == 0) = true := beq_iff_eq.mpr c6
 have c6b1 : (t101 != 0) = false := bne_eq_false_iff_eq.mpr c6
 clear c6
 replace H := Option.bind_eq_some_iff.mp H
 obtain ⟨t102, A70, H⟩ := H
 replace H : (if t102 = true then (dropperref02_Fits.l0 k l0 a1 a2 l3 0) else (some (false, 2))) = some (r1, r2) := H
 have A7 := A_ A70
 clear A70
 by_cases c8 : t102 = true
 rotate_left
 ·replace c8 := Bool.eq_false_iff.mpr c8
  subst c8
  have H1 : (some (false, 2)) = some (r1, r2) := by rw [if_neg (show ¬ (false = true) by decide)] at H; exact H
  clear H
  have H := H1
  clear H1
  simp only [Option.some.injEq, Prod.mk.injEq] at H
  obtain ⟨rfl, rfl⟩ := H
  go_enter Try.func48, Try.ntmps48
  go_wp2_with (first | ((with_reducible refine gate_callee (f := 54) rfl ?_); refine goesL_ (some 15) rfl rfl Try.func54 (by kernel_rfl) rfl #[.slice A0 l0.length c0, .int .i64 a1, .int .i64 a2] rfl (by (try simp only [List.map_toArray, List.map_cons, List.map_nil]); first | done | rfl | (simp only [List.length_drop, List.length_take]; rfl)) ?_; (with_reducible refine (dropperref02_asked.calls k _ _ l0 a1 a2 t101 _ ?side1 ?side2 A5.out).mono ?_); (case side1 => exact cU HR0.out); (case side2 => exact HC0.out); rintro e w31 ⟨rfl, hb⟩; refine ⟨_, rfl, ?_⟩; have n0_ := A_ (below_step (bW0 HB.out) hb); clear HB; have HB := n0_; clear n0_; (try clear hb); (try clear hb2); (try clear hk); (try clear hi)) | ((with_reducible refine gate_callee (f := 74) rfl ?_); refine goesL_ (some 22) rfl rfl Try.func74 (by kernel_rfl) rfl #[.slice A3 l3.length c3, .int .i64 (l0.length : Int)] rfl (by (try simp only [List.map_toArray, List.map_cons, List.map_nil]); first | done | rfl | (simp only [List.length_drop, List.length_take]; rfl)) ?_; (with_reducible refine (dropperref02_heights.calls k _ _ l3 (l0.length : Int) false _ ?side1 ?side2 A7.out).mono ?_); (case side1 => exact cU (Kd.C_below HR3.out HB.out)); (case side2 => exact HC3.out); rintro e w' ⟨rfl, ⟨nd, rfl⟩⟩; refine ⟨_, rfl, ?_⟩))
  go_ret2
  exact ⟨by first | rfl | (simp [errW_none, errW_some] <;> rfl) | (simp [*, errW_none, errW_some] <;> rfl), by repeat (first | (with_reducible first | exact HB.out | apply below_alloc | apply pw_below_drewN | apply below_drew1) | exact HB.out)⟩
 subst c8
 have H1 : (dropperref02_Fits.l0 k l0 a1 a2 l3 0) = some (r1, r2) := by rw [if_pos rfl] at H; exact H
 clear H
 have H := H1
 clear H1
 have H' := A_ H
 clear H
 go_enter Try.func48, Try.ntmps48
 go_wp2_with (first | ((with_reducible refine gate_callee (f := 54) rfl ?_); refine goesL_ (some 15) rfl rfl Try.func54 (by kernel_rfl) rfl #[.slice A0 l0.length c0, .int .i64 a1, .int .i64 a2] rfl (by (try simp only [List.map_toArray, List.map_cons, List.map_nil]); first | done | rfl | (simp only [List.length_drop, List.length_take]; rfl)) ?_; (with_reducible refine (dropperref02_asked.calls k _ _ l0 a1 a2 t101 _ ?side1 ?side2 A5.out).mono ?_); (case side1 => exact cU HR0.out); (case side2 => exact HC0.out); rintro e w9 ⟨rfl, hb⟩; refine ⟨_, rfl, ?_⟩; have n0_ := A_ (below_step (bW0 HB.out) hb); clear HB; have HB := n0_; clear n0_; (try clear hb); (try clear hb2); (try clear hk); (try clear hi)) | ((with_reducible refine gate_callee (f := 74) rfl ?_); refine goesL_ (some 22) rfl rfl Try.func74 (by kernel_rfl) rfl #[.slice A3 l3.length c3, .int .i64 (l0.length : Int)] rfl (by (try simp only [List.map_toArray, List.map_cons, List.map_nil]); first | done | rfl | (simp only [List.length_drop, List.length_take]; rfl)) ?_; (with_reducible refine (dropperref02_heights.calls k _ _ l3 (l0.length : Int) true _ ?side1 ?side2 A7.out).mono ?_); (case side1 => exact cU (Kd.C_below HR3.out HB.out)); (case side2 => exact HC3.out); rintro e w' ⟨rfl, ⟨nd, rfl⟩⟩; refine ⟨_, rfl, ?_⟩))
 go_loopg [11] k (fun kq v11 w' => ∃ (x11_1 : Int), v11 = .int .i64 x11_1 ∧ Aside0 (dropperref02_Fits.l0 kq l0 a1 a2 l3 x11_1 = some (r1, r2)) ∧ Aside0 (kq ≤ k) ∧ Aside0 (Below w.heap.size w w'))
 case atStart => exact ⟨(0), (by first | rfl | (simp; done) | (simp [*]; done)), H', ⟨Nat.le_refl _⟩, ⟨by repeat (first | (with_reducible first | exact HB.out | apply below_alloc | apply pw_below_drewN | apply below_drew1) | exact HB.out)⟩⟩
 case round =>
  clear H'
  try clear p2
  try clear c3
  try clear c4
  try clear c5
  try clear c6
  try clear c6b0
  try clear c6b1
  try clear c7
  try clear c8
  obtain ⟨x11_1, rfl, HA, HK1, HB⟩ := hrel
  cases gk with
  | zero => exact absurd HA.out (by simp [dropperref02_Fits.l0])
  | succ k1 =>
   have H := HA.out
   clear HA
   simp only [dropperref02_Fits.l0] at H
   by_cases c10 : x11_1 < (l0.length : Int)
   rotate_left
   ·rw [if_neg c10] at H
    have c10b0 : decide (x11_1 < (l0.length : Int)) = false := decide_eq_false c10
    clear c10
    simp only [Option.some.injEq, Prod.mk.injEq] at H
    obtain ⟨rfl, rfl⟩ := H
    go_wp2
    go_ret2
    exact ⟨by first | rfl | (simp [errW_none, errW_some] <;> rfl) | (simp [*, errW_none, errW_some] <;> rfl), by repeat (first | (with_reducible first | exact HB.out | apply below_alloc | apply pw_below_drewN | apply below_drew1) | exact HB.out)⟩
   rw [if_pos c10] at H
   have c10b0 : decide (x11_1 < (l0.length : Int)) = true := decide_eq_true c10
   clear c10
   by_cases c11 : 0 ≤ x11_1
   rotate_left
   ·rw [if_neg c11] at H
    exact absurd H (by simp)
   rw [if_pos c11] at H
   have c11b0 : decide (0 ≤ x11_1) = true := decide_eq_true c11
   clear c11
   by_cases c12 : x11_1 < (l3.length : Int)
   rotate_left
   ·rw [if_neg c12] at H
    exact absurd H (by simp)
   rw [if_pos c12] at H
   have c12b0 : decide (x11_1 < (l3.length : Int)) = true := decide_eq_true c12
   clear c12
   replace H := Option.bind_eq_some_iff.mp H
   obtain ⟨t106, A130, H⟩ := H
   replace H : (if t106 = true then (if x11_1 > 0 then (if 0 ≤ (wrap64 (x11_1 - 1)) then (if (wrap64 (x11_1 - 1)) < (l3.length : Int) then ((dropperref02_steps.f k1 l0 a1 a2 (wrap64 (x11_1 - 1)) x11_1).bind fun t111 => (if (mx (wrap64 ((rd l3 x11_1) - (rd l3 (wrap64 (x11_1 - 1))))) (wrap64 ((rd l3 (wrap64 (x11_1 - 1))) - (rd l3 x11_1)))) > t111 then (some (false, 0)) else (dropperref02_Fits.l0 k1 l0 a1 a2 l3 (wrap64 (x11_1 + 1))))) else (none)) else (none)) else (dropperref02_Fits.l0 k1 l0 a1 a2 l3 (wrap64 (x11_1 + 1)))) else (some (false, 0))) = some (r1, r2) := H
   have A13 := A_ A130
   clear A130
   by_cases c14 : t106 = true
   rotate_left
   ·replace c14 := Bool.eq_false_iff.mpr c14
    subst c14
    have H1 : (some (false, 0)) = some (r1, r2) := by rw [if_neg (show ¬ (false = true) by decide)] at H; exact H
    clear H
    have H := H1
    clear H1
    simp only [Option.some.injEq, Prod.mk.injEq] at H
    obtain ⟨rfl, rfl⟩ := H
    try go_wp2
    have n0_ := A_ (below_drew1 HB.out)
    clear HB
    have HB := n0_
    clear n0_
    have p103 : 0 ≤ (x11_1 : Int) := of_decide_eq_true (by first | (with_reducible assumption) | assumption)
    have q103 : x11_1 < (l0.length : Int) := of_decide_eq_true (by first | (with_reducible assumption) | assumption)
    obtain ⟨ad103, e103, hx103_0, hx103_1, hx103_2⟩ := at_T72 HR0.out x11_1 p103 q103
    have hw103_2 := hx103_2
    have hw103_1 := hx103_1
    have hw103_0 := hx103_0
    cases e103
    replace hx103_0 := (HB.out.cell (World.block_lt_of_cell? w _ hx103_0)).trans hx103_0
    replace hx103_1 := (HB.out.cell (World.block_lt_of_cell? w _ hx103_1)).trans hx103_1
    replace hx103_2 := (HB.out.cell (World.block_lt_of_cell? w _ hx103_2)).trans hx103_2
    replace p103 := eq_true p103
    replace q103 := eq_true q103
    have p104 : 0 ≤ (x11_1 : Int) := of_decide_eq_true (by first | (with_reducible assumption) | assumption)
    have q104 : x11_1 < (l3.length : Int) := of_decide_eq_true (by first | (with_reducible assumption) | assumption)
    obtain ⟨ad104, e104, hx104_0⟩ := Kd.at_int HR3.out x11_1 p104 q104
    have hw104_0 := hx104_0
    cases e104
    replace hx104_0 := (HB.out.cell (World.block_lt_of_cell? w _ hx104_0)).trans hx104_0
    replace p104 := eq_true p104
    replace q104 := eq_true q104
    have p105 : 0 ≤ (x11_1 : Int) := of_decide_eq_true (by first | (with_reducible assumption) | assumption)
    have q105 : x11_1 < (l0.length : Int) := of_decide_eq_true (by first | (with_reducible assumption) | assumption)
    obtain ⟨ad105, e105, hx105_0, hx105_1, hx105_2⟩ := at_T72 HR0.out x11_1 p105 q105
    have hw105_2 := hx105_2
    have hw105_1 := hx105_1
    have hw105_0 := hx105_0
    obtain rfl : ad103 = ad105 := (by injection e105)
    replace hx105_0 := (HB.out.cell (World.block_lt_of_cell? w _ hx105_0)).trans hx105_0
    replace hx105_1 := (HB.out.cell (World.block_lt_of_cell? w _ hx105_1)).trans hx105_1
    replace hx105_2 := (HB.out.cell (World.block_lt_of_cell? w _ hx105_2)).trans hx105_2
    replace p105 := eq_true p105
    replace q105 := eq_true q105
    refine start_ (n := 16) (S := fun w' => w'.cell? (ad103.add ((x11_1).toNat * 3)) = some (.int .i64 ((rd_T72 l0 x11_1).f0)) ∧ w'.cell? ⟨(ad103.add ((x11_1).toNat * 3)).block, (ad103.add ((x11_1).toNat * 3)).off + 1, none⟩ = some (.int .i64 ((rd_T72 l0 x11_1).f1)) ∧ w'.cell? ⟨(ad103.add ((x11_1).toNat * 3)).block, (ad103.add ((x11_1).toNat * 3)).off + 2, none⟩ = some (.int .i64 ((rd_T72 l0 x11_1).f2)) ∧ w'.cell? (ad104.add (x11_1).toNat) = some (.int .i64 (rd l3 x11_1)) ∧ w'.cell? (ad103.add ((x11_1).toNat * 3)) = some (.int .i64 ((rd_T72 l0 x11_1).f0)) ∧ w'.cell? ⟨(ad103.add ((x11_1).toNat * 3)).block, (ad103.add ((x11_1).toNat * 3)).off + 1, none⟩ = some (.int .i64 ((rd_T72 l0 x11_1).f1)) ∧ w'.cell? ⟨(ad103.add ((x11_1).toNat * 3)).block, (ad103.add ((x11_1).toNat * 3)).off + 2, none⟩ = some (.int .i64 ((rd_T72 l0 x11_1).f2))) (ds := []) (mkB 16 0) (by kernel_rfl) rfl rfl ⟨(pw_cell_below HB.out hw103_0), (pw_cell_below HB.out hw103_1), (pw_cell_below HB.out hw103_2), (pw_cell_below HB.out hw104_0), (pw_cell_below HB.out hw105_0), (pw_cell_below HB.out hw105_1), (pw_cell_below HB.out hw105_2)⟩ (fun hHeld => ?_); refine with_tabW dropperref02_Fits.tab9 dropperref02_Fits.bits9 (fun HT_ HW_ => ?_)
    generalize wr.drew = w30 at HB hx103_0 hx103_1 hx103_2 hx104_0 hx105_0 hx105_1 hx105_2 hHeld ⊢
    refine pr_ 0 (some 30) (mkB 16 1) HT_ ?_
    refine pr_ 1 (some 31) (mkB 16 3) HT_ ?_
    refine pr_ 2 (some 32) (mkB 16 7) HT_ ?_
    refine pr_ 3 (some 33) (mkB 16 15) HT_ ?_
    refine pr_ 5 (some 35) (mkB 16 47) HT_ ?_
    refine pr_ 6 (some 36) (mkB 16 111) HT_ ?_
    refine pr_ 7 (some 37) (mkB 16 239) HT_ ?_
    refine pr_ 9 (some 39) (mkB 16 751) HT_ ?_
    refine pr_ 10 (some 40) (mkB 16 1775) HT_ ?_
    refine pr_ 11 (some 41) (mkB 16 3823) HT_ ?_
    refine pr_ 12 (some 42) (mkB 16 7919) HT_ ?_
    refine take_ (i := 4) (N := some 34) (v := ?_) (a' := ?_) (mkB 16 7935) rfl rfl (take_ofW HT_.out HW_.out (by kernel_rfl)) (fun _ _ _ h => h) (Or.inl ⟨by rfl, ?_⟩) hHeld ?_ ?_
    rotate_left
    ·rintro w' ⟨s0, s1, s2, s3, s4, s5, s6⟩
     go_simp
     with_reducible rfl
    rotate_left
    ·simp only [Act.put, List.setIfInBounds_toArray, List.set_cons_zero, List.set_cons_succ, i64_w, i32_w]
     rfl
    refine take_ (i := 8) (N := some 38) (v := ?_) (a' := ?_) (mkB 16 8191) rfl rfl (take_ofW HT_.out HW_.out (by kernel_rfl)) (fun _ _ _ h => h) (Or.inl ⟨by rfl, ?_⟩) hHeld ?_ ?_
    rotate_left
    ·rintro w' ⟨s0, s1, s2, s3, s4, s5, s6⟩
     go_simp
     with_reducible rfl
    rotate_left
    ·simp only [Act.put, List.setIfInBounds_toArray, List.set_cons_zero, List.set_cons_succ, i64_w, i32_w]
     rfl
    refine take_ (i := 13) (N := some 43) (v := ?_) (a' := ?_) (mkB 16 16383) rfl rfl (take_ofW HT_.out HW_.out (by kernel_rfl)) (fun _ _ _ h => h) (Or.inl ⟨by rfl, ?_⟩) hHeld ?_ ?_
    rotate_left
    ·rintro w' ⟨s0, s1, s2, s3, s4, s5, s6⟩
     go_simp
     with_reducible rfl
    rotate_left
    ·simp only [Act.put, List.setIfInBounds_toArray, List.set_cons_zero, List.set_cons_succ, i64_w, i32_w]
     rfl
    refine one_ (i := 14) (N := some 44) (mkB 16 32767) rfl rfl (one_of HT_.out (by kernel_rfl)) (by decide) (fun K hK => ?_)
    refine goes_ Try.func57 (by kernel_rfl) rfl #[.int .i64 ((rd_T72 l0 x11_1).f1), .int .i64 (rd l3 x11_1), .int .i64 ((rd_T72 l0 x11_1).f2)] (by rfl) rfl rfl (by (try simp only [List.map_toArray, List.map_cons, List.map_nil]); first | done | rfl | (simp only [List.length_drop, List.length_take]; rfl)) ?_
    with_reducible refine (dropperref02_from.calls ((rd_T72 l0 x11_1).f1) (rd l3 x11_1) ((rd_T72 l0 x11_1).f2) false _ A13.out).mono ?_
    rintro e w' ⟨rfl, ⟨nd, rfl⟩⟩
    refine ⟨_, rfl, ?_⟩
    refine hK.out _ _ ⟨(pw_cell_below HB.out hw103_0), (pw_cell_below HB.out hw103_1), (pw_cell_below HB.out hw103_2), (pw_cell_below HB.out hw104_0), (pw_cell_below HB.out hw105_0), (pw_cell_below HB.out hw105_1), (pw_cell_below HB.out hw105_2)⟩ (fun hHeld => ?_)
    clear hK K
    refine norm_ (a' := ?_) ?_ ?_
    rotate_left
    ·show Act.put _ (some 44) _ = _
     simp only [Act.put, List.setIfInBounds_toArray, List.set_cons_zero, List.set_cons_succ, i64_w, i32_w]
     rfl
    refine pr_ 15 (some 45) (mkB 16 65535) HT_ ?_
    refine done_ (done_of HT_.out (by kernel_rfl)) ?_
    try go_wp2
    go_ret2
    exact ⟨by first | rfl | (simp [errW_none, errW_some] <;> rfl) | (simp [*, errW_none, errW_some] <;> rfl), by repeat (first | (with_reducible first | exact HB.out | apply below_alloc | apply pw_below_drewN | apply below_drew1) | exact HB.out)⟩
   subst c14
   have H1 : (if x11_1 > 0 then (if 0 ≤ (wrap64 (x11_1 - 1)) then (if (wrap64 (x11_1 - 1)) < (l3.length : Int) then ((dropperref02_steps.f k1 l0 a1 a2 (wrap64 (x11_1 - 1)) x11_1).bind fun t111 => (if (mx (wrap64 ((rd l3 x11_1) - (rd l3 (wrap64 (x11_1 - 1))))) (wrap64 ((rd l3 (wrap64 (x11_1 - 1))) - (rd l3 x11_1)))) > t111 then (some (false, 0)) else (dropperref02_Fits.l0 k1 l0 a1 a2 l3 (wrap64 (x11_1 + 1))))) else (none)) else (none)) else (dropperref02_Fits.l0 k1 l0 a1 a2 l3 (wrap64 (x11_1 + 1)))) = some (r1, r2) := by rw [if_pos rfl] at H; exact H
   clear H
   have H := H1
   clear H1
   by_cases c15 : x11_1 > 0
   rotate_left
   ·rw [if_neg c15] at H
    have c15b0 : decide (0 < x11_1) = false := decide_eq_false c15
    clear c15
    have H' := A_ H
    clear H
    try go_wp2
    have n0_ := A_ (below_drew1 HB.out)
    clear HB
    have HB := n0_
    clear n0_
    have p103 : 0 ≤ (x11_1 : Int) := of_decide_eq_true (by first | (with_reducible assumption) | assumption)
    have q103 : x11_1 < (l0.length : Int) := of_decide_eq_true (by first | (with_reducible assumption) | assumption)
    obtain ⟨ad103, e103, hx103_0, hx103_1, hx103_2⟩ := at_T72 HR0.out x11_1 p103 q103
    have hw103_2 := hx103_2
    have hw103_1 := hx103_1
    have hw103_0 := hx103_0
    cases e103
    replace hx103_0 := (HB.out.cell (World.block_lt_of_cell? w _ hx103_0)).trans hx103_0
    replace hx103_1 := (HB.out.cell (World.block_lt_of_cell? w _ hx103_1)).trans hx103_1
    replace hx103_2 := (HB.out.cell (World.block_lt_of_cell? w _ hx103_2)).trans hx103_2
    replace p103 := eq_true p103
    replace q103 := eq_true q103
    have p104 : 0 ≤ (x11_1 : Int) := of_decide_eq_true (by first | (with_reducible assumption) | assumption)
    have q104 : x11_1 < (l3.length : Int) := of_decide_eq_true (by first | (with_reducible assumption) | assumption)
    obtain ⟨ad104, e104, hx104_0⟩ := Kd.at_int HR3.out x11_1 p104 q104
    have hw104_0 := hx104_0
    cases e104
    replace hx104_0 := (HB.out.cell (World.block_lt_of_cell? w _ hx104_0)).trans hx104_0
    replace p104 := eq_true p104
    replace q104 := eq_true q104
    have p105 : 0 ≤ (x11_1 : Int) := of_decide_eq_true (by first | (with_reducible assumption) | assumption)
    have q105 : x11_1 < (l0.length : Int) := of_decide_eq_true (by first | (with_reducible assumption) | assumption)
    obtain ⟨ad105, e105, hx105_0, hx105_1, hx105_2⟩ := at_T72 HR0.out x11_1 p105 q105
    have hw105_2 := hx105_2
    have hw105_1 := hx105_1
    have hw105_0 := hx105_0
    obtain rfl : ad103 = ad105 := (by injection e105)
    replace hx105_0 := (HB.out.cell (World.block_lt_of_cell? w _ hx105_0)).trans hx105_0
    replace hx105_1 := (HB.out.cell (World.block_lt_of_cell? w _ hx105_1)).trans hx105_1
    replace hx105_2 := (HB.out.cell (World.block_lt_of_cell? w _ hx105_2)).trans hx105_2
    replace p105 := eq_true p105
    replace q105 := eq_true q105
    refine start_ (n := 16) (S := fun w' => w'.cell? (ad103.add ((x11_1).toNat * 3)) = some (.int .i64 ((rd_T72 l0 x11_1).f0)) ∧ w'.cell? ⟨(ad103.add ((x11_1).toNat * 3)).block, (ad103.add ((x11_1).toNat * 3)).off + 1, none⟩ = some (.int .i64 ((rd_T72 l0 x11_1).f1)) ∧ w'.cell? ⟨(ad103.add ((x11_1).toNat * 3)).block, (ad103.add ((x11_1).toNat * 3)).off + 2, none⟩ = some (.int .i64 ((rd_T72 l0 x11_1).f2)) ∧ w'.cell? (ad104.add (x11_1).toNat) = some (.int .i64 (rd l3 x11_1)) ∧ w'.cell? (ad103.add ((x11_1).toNat * 3)) = some (.int .i64 ((rd_T72 l0 x11_1).f0)) ∧ w'.cell? ⟨(ad103.add ((x11_1).toNat * 3)).block, (ad103.add ((x11_1).toNat * 3)).off + 1, none⟩ = some (.int .i64 ((rd_T72 l0 x11_1).f1)) ∧ w'.cell? ⟨(ad103.add ((x11_1).toNat * 3)).block, (ad103.add ((x11_1).toNat * 3)).off + 2, none⟩ = some (.int .i64 ((rd_T72 l0 x11_1).f2))) (ds := []) (mkB 16 0) (by kernel_rfl) rfl rfl ⟨(pw_cell_below HB.out hw103_0), (pw_cell_below HB.out hw103_1), (pw_cell_below HB.out hw103_2), (pw_cell_below HB.out hw104_0), (pw_cell_below HB.out hw105_0), (pw_cell_below HB.out hw105_1), (pw_cell_below HB.out hw105_2)⟩ (fun hHeld => ?_); refine with_tabW dropperref02_Fits.tab9 dropperref02_Fits.bits9 (fun HT_ HW_ => ?_)
    generalize wr.drew = w28 at HB hx103_0 hx103_1 hx103_2 hx104_0 hx105_0 hx105_1 hx105_2 hHeld ⊢
    refine pr_ 0 (some 30) (mkB 16 1) HT_ ?_
    refine pr_ 1 (some 31) (mkB 16 3) HT_ ?_
    refine pr_ 2 (some 32) (mkB 16 7) HT_ ?_
    refine pr_ 3 (some 33) (mkB 16 15) HT_ ?_
    refine pr_ 5 (some 35) (mkB 16 47) HT_ ?_
    refine pr_ 6 (some 36) (mkB 16 111) HT_ ?_
    refine pr_ 7 (some 37) (mkB 16 239) HT_ ?_
    refine pr_ 9 (some 39) (mkB 16 751) HT_ ?_
    refine pr_ 10 (some 40) (mkB 16 1775) HT_ ?_
    refine pr_ 11 (some 41) (mkB 16 3823) HT_ ?_
    refine pr_ 12 (some 42) (mkB 16 7919) HT_ ?_
    refine take_ (i := 4) (N := some 34) (v := ?_) (a' := ?_) (mkB 16 7935) rfl rfl (take_ofW HT_.out HW_.out (by kernel_rfl)) (fun _ _ _ h => h) (Or.inl ⟨by rfl, ?_⟩) hHeld ?_ ?_
    rotate_left
    ·rintro w' ⟨s0, s1, s2, s3, s4, s5, s6⟩
     go_simp
     with_reducible rfl
    rotate_left
    ·simp only [Act.put, List.setIfInBounds_toArray, List.set_cons_zero, List.set_cons_succ, i64_w, i32_w]
     rfl
    refine take_ (i := 8) (N := some 38) (v := ?_) (a' := ?_) (mkB 16 8191) rfl rfl (take_ofW HT_.out HW_.out (by kernel_rfl)) (fun _ _ _ h => h) (Or.inl ⟨by rfl, ?_⟩) hHeld ?_ ?_
    rotate_left
    ·rintro w' ⟨s0, s1, s2, s3, s4, s5, s6⟩
     go_simp
     with_reducible rfl
    rotate_left
    ·simp only [Act.put, List.setIfInBounds_toArray, List.set_cons_zero, List.set_cons_succ, i64_w, i32_w]
     rfl
    refine take_ (i := 13) (N := some 43) (v := ?_) (a' := ?_) (mkB 16 16383) rfl rfl (take_ofW HT_.out HW_.out (by kernel_rfl)) (fun _ _ _ h => h) (Or.inl ⟨by rfl, ?_⟩) hHeld ?_ ?_
    rotate_left
    ·rintro w' ⟨s0, s1, s2, s3, s4, s5, s6⟩
     go_simp
     with_reducible rfl
    rotate_left
    ·simp only [Act.put, List.setIfInBounds_toArray, List.set_cons_zero, List.set_cons_succ, i64_w, i32_w]
     rfl
    refine one_ (i := 14) (N := some 44) (mkB 16 32767) rfl rfl (one_of HT_.out (by kernel_rfl)) (by decide) (fun K hK => ?_)
    refine goes_ Try.func57 (by kernel_rfl) rfl #[.int .i64 ((rd_T72 l0 x11_1).f1), .int .i64 (rd l3 x11_1), .int .i64 ((rd_T72 l0 x11_1).f2)] (by rfl) rfl rfl (by (try simp only [List.map_toArray, List.map_cons, List.map_nil]); first | done | rfl | (simp only [List.length_drop, List.length_take]; rfl)) ?_
    with_reducible refine (dropperref02_from.calls ((rd_T72 l0 x11_1).f1) (rd l3 x11_1) ((rd_T72 l0 x11_1).f2) true _ A13.out).mono ?_
    rintro e w' ⟨rfl, ⟨nd, rfl⟩⟩
    refine ⟨_, rfl, ?_⟩
    refine hK.out _ _ ⟨(pw_cell_below HB.out hw103_0), (pw_cell_below HB.out hw103_1), (pw_cell_below HB.out hw103_2), (pw_cell_below HB.out hw104_0), (pw_cell_below HB.out hw105_0), (pw_cell_below HB.out hw105_1), (pw_cell_below HB.out hw105_2)⟩ (fun hHeld => ?_)
    clear hK K
    refine norm_ (a' := ?_) ?_ ?_
    rotate_left
    ·show Act.put _ (some 44) _ = _
     simp only [Act.put, List.setIfInBounds_toArray, List.set_cons_zero, List.set_cons_succ, i64_w, i32_w]
     rfl
    refine pr_ 15 (some 45) (mkB 16 65535) HT_ ?_
    refine done_ (done_of HT_.out (by kernel_rfl)) ?_
    try go_wp2
    (try (rw [drewN_self w28]; generalize hq_ : World.drewN w28 _ = w28; have n0_ : Aside0 (Below w.heap.size w w28) := ⟨by rw [← hq_]; exact (bW0 HB.out)⟩; clear HB hq_; have HB := n0_; clear n0_))
    have n0_ := A_ (below_drew1 HB.out)
    clear HB
    have HB := n0_
    clear n0_
    refine start_ (n := 33) (S := fun w' => True) (ds := []) (mkB 33 0) (by kernel_rfl) rfl rfl trivial (fun hHeld => ?_); refine with_tabW dropperref02_Fits.tab11 dropperref02_Fits.bits11 (fun HT_ HW_ => ?_)
    generalize w28.drew = w29 at HB hHeld ⊢
    refine pr_ 0 (some 46) (mkB 33 1) HT_ ?_
    refine pr_ 1 (some 47) (mkB 33 3) HT_ ?_
    refine pr_ 2 (some 48) (mkB 33 7) HT_ ?_
    refine pu_ 3 (some 49) (mkB 33 15) HT_ ?_
    refine pu_ 4 (some 50) (mkB 33 31) HT_ ?_
    refine pu_ 5 (some 51) (mkB 33 63) HT_ ?_
    refine pu_ 6 (some 52) (mkB 33 127) HT_ ?_
    refine pu_ 7 (some 53) (mkB 33 255) HT_ ?_
    refine pu_ 8 (some 54) (mkB 33 511) HT_ ?_
    refine pu_ 9 (some 55) (mkB 33 1023) HT_ ?_
    refine pu_ 10 (some 56) (mkB 33 2047) HT_ ?_
    refine pu_ 11 (some 57) (mkB 33 4095) HT_ ?_
    refine pu_ 12 (some 58) (mkB 33 8191) HT_ ?_
    refine pu_ 13 (some 59) (mkB 33 16383) HT_ ?_
    refine pu_ 14 (some 60) (mkB 33 32767) HT_ ?_
    refine pu_ 15 (some 61) (mkB 33 65535) HT_ ?_
    refine pu_ 16 (some 62) (mkB 33 131071) HT_ ?_
    refine pu_ 17 (some 63) (mkB 33 262143) HT_ ?_
    refine pu_ 18 (some 64) (mkB 33 524287) HT_ ?_
    refine pu_ 19 (some 65) (mkB 33 1048575) HT_ ?_
    refine pu_ 20 (some 66) (mkB 33 2097151) HT_ ?_
    refine pu_ 21 (some 67) (mkB 33 4194303) HT_ ?_
    refine pu_ 22 (some 68) (mkB 33 8388607) HT_ ?_
    refine pu_ 23 (some 69) (mkB 33 16777215) HT_ ?_
    refine pu_ 24 (some 70) (mkB 33 33554431) HT_ ?_
    refine pu_ 25 (some 71) (mkB 33 67108863) HT_ ?_
    refine pu_ 26 (some 72) (mkB 33 134217727) HT_ ?_
    refine pu_ 27 (some 73) (mkB 33 268435455) HT_ ?_
    refine pu_ 28 (some 74) (mkB 33 536870911) HT_ ?_
    refine pu_ 29 (some 75) (mkB 33 1073741823) HT_ ?_
    refine pu_ 30 (some 76) (mkB 33 2147483647) HT_ ?_
    refine pu_ 31 (some 77) (mkB 33 4294967295) HT_ ?_
    refine pr_ 32 (some 78) (mkB 33 8589934591) HT_ ?_
    refine done_ (done_of HT_.out (by kernel_rfl)) ?_
    try go_wp2
    go_roundg k1
    case measure => have := HK1.out; omega
    case rel => exact ⟨(wrap64 (x11_1 + 1)), (by first | rfl | (simp; done) | (simp [*]; done)), H', ⟨by have := HK1.out; omega⟩, ⟨by repeat (first | (with_reducible first | exact HB.out | apply below_alloc | apply pw_below_drewN | apply below_drew1) | exact HB.out)⟩⟩
   rw [if_pos c15] at H
   have c15b0 : decide (0 < x11_1) = true := decide_eq_true c15
   clear c15
   obtain ⟨ji16, hji16⟩ : ∃ j_ : Int, (wrap64 (x11_1 - 1)) = j_ := ⟨_, rfl⟩
   replace H : (if 0 ≤ (ji16) then (if (ji16) < (l3.length : Int) then ((dropperref02_steps.f k1 l0 a1 a2 (ji16) x11_1).bind fun t111 => (if (mx (wrap64 ((rd l3 x11_1) - (rd l3 (ji16)))) (wrap64 ((rd l3 (ji16)) - (rd l3 x11_1)))) > t111 then (some (false, 0)) else (dropperref02_Fits.l0 k1 l0 a1 a2 l3 (wrap64 (x11_1 + 1))))) else (none)) else (none)) = some (r1, r2) := by first | (rw [hji16] at H; exact H) | (simp only [hji16] at H ⊢; exact H)
   (try rw [hji16] at A13)
   have hji16w : (IntKind.i64.wrap (x11_1 - 1)) = ji16 := (i64_w _).trans hji16
   by_cases c17 : 0 ≤ (ji16)
   rotate_left
   ·rw [if_neg c17] at H
    exact absurd H (by simp)
   rw [if_pos c17] at H
   have c17b0 : decide (0 ≤ (ji16)) = true := decide_eq_true c17
   clear c17
   by_cases c18 : (ji16) < (l3.length : Int)
   rotate_left
   ·rw [if_neg c18] at H
    exact absurd H (by simp)
   rw [if_pos c18] at H
   have c18b0 : decide ((ji16) < (l3.length : Int)) = true := decide_eq_true c18
   clear c18
   obtain ⟨ji19, hji19⟩ : ∃ j_ : Int, (mx (wrap64 ((rd l3 x11_1) - (rd l3 (ji16)))) (wrap64 ((rd l3 (ji16)) - (rd l3 x11_1)))) = j_ := ⟨_, rfl⟩
   replace H : ((dropperref02_steps.f k1 l0 a1 a2 (ji16) x11_1).bind fun t111 => (if (ji19) > t111 then (some (false, 0)) else (dropperref02_Fits.l0 k1 l0 a1 a2 l3 (wrap64 (x11_1 + 1))))) = some (r1, r2) := by first | (rw [hji19] at H; exact H) | (simp only [hji19] at H ⊢; exact H)
   (try rw [hji19] at A13)
   have hji19_ : (if (wrap64 ((rd l3 x11_1) - (rd l3 (ji16)))) < (wrap64 ((rd l3 (ji16)) - (rd l3 x11_1))) then (wrap64 ((rd l3 (ji16)) - (rd l3 x11_1))) else (wrap64 ((rd l3 x11_1) - (rd l3 (ji16))))) = ji19 := hji19
   replace H := Option.bind_eq_some_iff.mp H
   obtain ⟨t111, A200, H⟩ := H
   replace H : (if (ji19) > t111 then (some (false, 0)) else (dropperref02_Fits.l0 k1 l0 a1 a2 l3 (wrap64 (x11_1 + 1)))) = some (r1, r2) := H
   have A20 := A_ A200
   clear A200
   by_cases c21 : (ji19) > t111
   rotate_left
   ·rw [if_neg c21] at H
    have c21b0 : decide (t111 < (ji19)) = false := decide_eq_false c21
    clear c21
    have H' := A_ H
    clear H
    try go_wp2
    have n0_ := A_ (below_drew1 HB.out)
    clear HB
    have HB := n0_
    clear n0_
    have p103 : 0 ≤ (x11_1 : Int) := of_decide_eq_true (by first | (with_reducible assumption) | assumption)
    have q103 : x11_1 < (l0.length : Int) := of_decide_eq_true (by first | (with_reducible assumption) | assumption)
    obtain ⟨ad103, e103, hx103_0, hx103_1, hx103_2⟩ := at_T72 HR0.out x11_1 p103 q103
    have hw103_2 := hx103_2
    have hw103_1 := hx103_1
    have hw103_0 := hx103_0
    cases e103
    replace hx103_0 := (HB.out.cell (World.block_lt_of_cell? w _ hx103_0)).trans hx103_0
    replace hx103_1 := (HB.out.cell (World.block_lt_of_cell? w _ hx103_1)).trans hx103_1
    replace hx103_2 := (HB.out.cell (World.block_lt_of_cell? w _ hx103_2)).trans hx103_2
    replace p103 := eq_true p103
    replace q103 := eq_true q103
    have p104 : 0 ≤ (x11_1 : Int) := of_decide_eq_true (by first | (with_reducible assumption) | assumption)
    have q104 : x11_1 < (l3.length : Int) := of_decide_eq_true (by first | (with_reducible assumption) | assumption)
    obtain ⟨ad104, e104, hx104_0⟩ := Kd.at_int HR3.out x11_1 p104 q104
    have hw104_0 := hx104_0
    cases e104
    replace hx104_0 := (HB.out.cell (World.block_lt_of_cell? w _ hx104_0)).trans hx104_0
    replace p104 := eq_true p104
    replace q104 := eq_true q104
    have p105 : 0 ≤ (x11_1 : Int) := of_decide_eq_true (by first | (with_reducible assumption) | assumption)
    have q105 : x11_1 < (l0.length : Int) := of_decide_eq_true (by first | (with_reducible assumption) | assumption)
    obtain ⟨ad105, e105, hx105_0, hx105_1, hx105_2⟩ := at_T72 HR0.out x11_1 p105 q105
    have hw105_2 := hx105_2
    have hw105_1 := hx105_1
    have hw105_0 := hx105_0
    obtain rfl : ad103 = ad105 := (by injection e105)
    replace hx105_0 := (HB.out.cell (World.block_lt_of_cell? w _ hx105_0)).trans hx105_0
    replace hx105_1 := (HB.out.cell (World.block_lt_of_cell? w _ hx105_1)).trans hx105_1
    replace hx105_2 := (HB.out.cell (World.block_lt_of_cell? w _ hx105_2)).trans hx105_2
    replace p105 := eq_true p105
    replace q105 := eq_true q105
    refine start_ (n := 16) (S := fun w' => w'.cell? (ad103.add ((x11_1).toNat * 3)) = some (.int .i64 ((rd_T72 l0 x11_1).f0)) ∧ w'.cell? ⟨(ad103.add ((x11_1).toNat * 3)).block, (ad103.add ((x11_1).toNat * 3)).off + 1, none⟩ = some (.int .i64 ((rd_T72 l0 x11_1).f1)) ∧ w'.cell? ⟨(ad103.add ((x11_1).toNat * 3)).block, (ad103.add ((x11_1).toNat * 3)).off + 2, none⟩ = some (.int .i64 ((rd_T72 l0 x11_1).f2)) ∧ w'.cell? (ad104.add (x11_1).toNat) = some (.int .i64 (rd l3 x11_1)) ∧ w'.cell? (ad103.add ((x11_1).toNat * 3)) = some (.int .i64 ((rd_T72 l0 x11_1).f0)) ∧ w'.cell? ⟨(ad103.add ((x11_1).toNat * 3)).block, (ad103.add ((x11_1).toNat * 3)).off + 1, none⟩ = some (.int .i64 ((rd_T72 l0 x11_1).f1)) ∧ w'.cell? ⟨(ad103.add ((x11_1).toNat * 3)).block, (ad103.add ((x11_1).toNat * 3)).off + 2, none⟩ = some (.int .i64 ((rd_T72 l0 x11_1).f2))) (ds := []) (mkB 16 0) (by kernel_rfl) rfl rfl ⟨(pw_cell_below HB.out hw103_0), (pw_cell_below HB.out hw103_1), (pw_cell_below HB.out hw103_2), (pw_cell_below HB.out hw104_0), (pw_cell_below HB.out hw105_0), (pw_cell_below HB.out hw105_1), (pw_cell_below HB.out hw105_2)⟩ (fun hHeld => ?_); refine with_tabW dropperref02_Fits.tab9 dropperref02_Fits.bits9 (fun HT_ HW_ => ?_)
    generalize wr.drew = w25 at HB hx103_0 hx103_1 hx103_2 hx104_0 hx105_0 hx105_1 hx105_2 hHeld ⊢
    refine pr_ 0 (some 30) (mkB 16 1) HT_ ?_
    refine pr_ 1 (some 31) (mkB 16 3) HT_ ?_
    refine pr_ 2 (some 32) (mkB 16 7) HT_ ?_
    refine pr_ 3 (some 33) (mkB 16 15) HT_ ?_
    refine pr_ 5 (some 35) (mkB 16 47) HT_ ?_
    refine pr_ 6 (some 36) (mkB 16 111) HT_ ?_
    refine pr_ 7 (some 37) (mkB 16 239) HT_ ?_
    refine pr_ 9 (some 39) (mkB 16 751) HT_ ?_
    refine pr_ 10 (some 40) (mkB 16 1775) HT_ ?_
    refine pr_ 11 (some 41) (mkB 16 3823) HT_ ?_
    refine pr_ 12 (some 42) (mkB 16 7919) HT_ ?_
    refine take_ (i := 4) (N := some 34) (v := ?_) (a' := ?_) (mkB 16 7935) rfl rfl (take_ofW HT_.out HW_.out (by kernel_rfl)) (fun _ _ _ h => h) (Or.inl ⟨by rfl, ?_⟩) hHeld ?_ ?_
    rotate_left
    ·rintro w' ⟨s0, s1, s2, s3, s4, s5, s6⟩
     go_simp
     with_reducible rfl
    rotate_left
    ·simp only [Act.put, List.setIfInBounds_toArray, List.set_cons_zero, List.set_cons_succ, i64_w, i32_w]
     rfl
    refine take_ (i := 8) (N := some 38) (v := ?_) (a' := ?_) (mkB 16 8191) rfl rfl (take_ofW HT_.out HW_.out (by kernel_rfl)) (fun _ _ _ h => h) (Or.inl ⟨by rfl, ?_⟩) hHeld ?_ ?_
    rotate_left
    ·rintro w' ⟨s0, s1, s2, s3, s4, s5, s6⟩
     go_simp
     with_reducible rfl
    rotate_left
    ·simp only [Act.put, List.setIfInBounds_toArray, List.set_cons_zero, List.set_cons_succ, i64_w, i32_w]
     rfl
    refine take_ (i := 13) (N := some 43) (v := ?_) (a' := ?_) (mkB 16 16383) rfl rfl (take_ofW HT_.out HW_.out (by kernel_rfl)) (fun _ _ _ h => h) (Or.inl ⟨by rfl, ?_⟩) hHeld ?_ ?_
    rotate_left
    ·rintro w' ⟨s0, s1, s2, s3, s4, s5, s6⟩
     go_simp
     with_reducible rfl
    rotate_left
    ·simp only [Act.put, List.setIfInBounds_toArray, List.set_cons_zero, List.set_cons_succ, i64_w, i32_w]
     rfl
    refine one_ (i := 14) (N := some 44) (mkB 16 32767) rfl rfl (one_of HT_.out (by kernel_rfl)) (by decide) (fun K hK => ?_)
    refine goes_ Try.func57 (by kernel_rfl) rfl #[.int .i64 ((rd_T72 l0 x11_1).f1), .int .i64 (rd l3 x11_1), .int .i64 ((rd_T72 l0 x11_1).f2)] (by rfl) rfl rfl (by (try simp only [List.map_toArray, List.map_cons, List.map_nil]); first | done | rfl | (simp only [List.length_drop, List.length_take]; rfl)) ?_
    with_reducible refine (dropperref02_from.calls ((rd_T72 l0 x11_1).f1) (rd l3 x11_1) ((rd_T72 l0 x11_1).f2) true _ A13.out).mono ?_
    rintro e w' ⟨rfl, ⟨nd, rfl⟩⟩
    refine ⟨_, rfl, ?_⟩
    refine hK.out _ _ ⟨(pw_cell_below HB.out hw103_0), (pw_cell_below HB.out hw103_1), (pw_cell_below HB.out hw103_2), (pw_cell_below HB.out hw104_0), (pw_cell_below HB.out hw105_0), (pw_cell_below HB.out hw105_1), (pw_cell_below HB.out hw105_2)⟩ (fun hHeld => ?_)
    clear hK K
    refine norm_ (a' := ?_) ?_ ?_
    rotate_left
    ·show Act.put _ (some 44) _ = _
     simp only [Act.put, List.setIfInBounds_toArray, List.set_cons_zero, List.set_cons_succ, i64_w, i32_w]
     rfl
    refine pr_ 15 (some 45) (mkB 16 65535) HT_ ?_
    refine done_ (done_of HT_.out (by kernel_rfl)) ?_
    try go_wp2
    (try (rw [drewN_self w25]; generalize hq_ : World.drewN w25 _ = w25; have n0_ : Aside0 (Below w.heap.size w w25) := ⟨by rw [← hq_]; exact (bW0 HB.out)⟩; clear HB hq_; have HB := n0_; clear n0_))
    have n0_ := A_ (below_drew1 HB.out)
    clear HB
    have HB := n0_
    clear n0_
    have p107 : 0 ≤ (x11_1 : Int) := of_decide_eq_true (by first | (with_reducible assumption) | assumption)
    have q107 : x11_1 < (l3.length : Int) := of_decide_eq_true (by first | (with_reducible assumption) | assumption)
    obtain ⟨ad107, e107, hx107_0⟩ := Kd.at_int HR3.out x11_1 p107 q107
    have hw107_0 := hx107_0
    obtain rfl : ad104 = ad107 := (by injection e107)
    replace hx107_0 := (HB.out.cell (World.block_lt_of_cell? w _ hx107_0)).trans hx107_0
    replace p107 := eq_true p107
    replace q107 := eq_true q107
    have p108 : 0 ≤ ((ji16) : Int) := of_decide_eq_true (by first | (with_reducible assumption) | assumption)
    have q108 : (ji16) < (l3.length : Int) := of_decide_eq_true (by first | (with_reducible assumption) | assumption)
    obtain ⟨ad108, e108, hx108_0⟩ := Kd.at_int HR3.out (ji16) p108 q108
    have hw108_0 := hx108_0
    obtain rfl : ad104 = ad108 := (by injection e108)
    replace hx108_0 := (HB.out.cell (World.block_lt_of_cell? w _ hx108_0)).trans hx108_0
    replace p108 := eq_true p108
    replace q108 := eq_true q108
    have p109 : 0 ≤ ((ji16) : Int) := of_decide_eq_true (by first | (with_reducible assumption) | assumption)
    have q109 : (ji16) < (l3.length : Int) := of_decide_eq_true (by first | (with_reducible assumption) | assumption)
    obtain ⟨ad109, e109, hx109_0⟩ := Kd.at_int HR3.out (ji16) p109 q109
    have hw109_0 := hx109_0
    obtain rfl : ad104 = ad109 := (by injection e109)
    replace hx109_0 := (HB.out.cell (World.block_lt_of_cell? w _ hx109_0)).trans hx109_0
    replace p109 := eq_true p109
    replace q109 := eq_true q109
    have p110 : 0 ≤ (x11_1 : Int) := of_decide_eq_true (by first | (with_reducible assumption) | assumption)
    have q110 : x11_1 < (l3.length : Int) := of_decide_eq_true (by first | (with_reducible assumption) | assumption)
    obtain ⟨ad110, e110, hx110_0⟩ := Kd.at_int HR3.out x11_1 p110 q110
    have hw110_0 := hx110_0
    obtain rfl : ad104 = ad110 := (by injection e110)
    replace hx110_0 := (HB.out.cell (World.block_lt_of_cell? w _ hx110_0)).trans hx110_0
    replace p110 := eq_true p110
    replace q110 := eq_true q110
    refine start_ (n := 33) (S := fun w' => w'.cell? (ad104.add (x11_1).toNat) = some (.int .i64 (rd l3 x11_1)) ∧ w'.cell? (ad104.add ((ji16)).toNat) = some (.int .i64 (rd l3 (ji16))) ∧ w'.cell? (ad104.add ((ji16)).toNat) = some (.int .i64 (rd l3 (ji16))) ∧ w'.cell? (ad104.add (x11_1).toNat) = some (.int .i64 (rd l3 x11_1))) (ds := []) (mkB 33 0) (by kernel_rfl) rfl rfl ⟨(pw_cell_below HB.out hw107_0), (pw_cell_below HB.out hw108_0), (pw_cell_below HB.out hw109_0), (pw_cell_below HB.out hw110_0)⟩ (fun hHeld => ?_); refine with_tabW dropperref02_Fits.tab11 dropperref02_Fits.bits11 (fun HT_ HW_ => ?_)
    generalize w25.drew = w26 at HB hx107_0 hx108_0 hx109_0 hx110_0 hHeld ⊢
    refine pr_ 0 (some 46) (mkB 33 1) HT_ ?_
    refine pr_ 1 (some 47) (mkB 33 3) HT_ ?_
    refine pr_ 2 (some 48) (mkB 33 7) HT_ ?_
    refine pr_ 3 (some 49) (mkB 33 15) HT_ ?_
    refine pr_ 4 (some 50) (mkB 33 31) HT_ ?_
    refine pr_ 5 (some 51) (mkB 33 63) HT_ ?_
    refine pr_ 7 (some 53) (mkB 33 191) HT_ ?_
    refine pr_ 8 (some 54) (mkB 33 447) HT_ ?_
    refine pr_ 9 (some 55) (mkB 33 959) HT_ ?_
    refine pr_ 10 (some 56) (mkB 33 1983) HT_ ?_
    refine pr_ 13 (some 59) (mkB 33 10175) HT_ ?_
    refine pr_ 14 (some 60) (mkB 33 26559) HT_ ?_
    refine pr_ 15 (some 61) (mkB 33 59327) HT_ ?_
    refine pr_ 16 (some 62) (mkB 33 124863) HT_ ?_
    refine pr_ 18 (some 64) (mkB 33 387007) HT_ ?_
    refine pr_ 19 (some 65) (mkB 33 911295) HT_ ?_
    refine pr_ 20 (some 66) (mkB 33 1959871) HT_ ?_
    refine pr_ 24 (some 70) (mkB 33 18737087) HT_ ?_
    refine pr_ 25 (some 71) (mkB 33 52291519) HT_ ?_
    refine pr_ 26 (some 72) (mkB 33 119400383) HT_ ?_
    refine pr_ 27 (some 73) (mkB 33 253618111) HT_ ?_
    refine pr_ 28 (some 74) (mkB 33 522053567) HT_ ?_
    refine pr_ 29 (some 75) (mkB 33 1058924479) HT_ ?_
    refine take_ (i := 6) (N := some 52) (v := ?_) (a' := ?_) (mkB 33 1058924543) rfl rfl (take_ofW HT_.out HW_.out (by kernel_rfl)) (fun _ _ _ h => h) (Or.inl ⟨by rfl, ?_⟩) hHeld ?_ ?_
    rotate_left
    ·rintro w' ⟨s0, s1, s2, s3⟩
     go_simp
     with_reducible rfl
    rotate_left
    ·simp only [Act.put, List.setIfInBounds_toArray, List.set_cons_zero, List.set_cons_succ, i64_w, i32_w]
     rfl
    refine take_ (i := 11) (N := some 57) (v := ?_) (a' := ?_) (mkB 33 1058926591) rfl rfl (take_ofW HT_.out HW_.out (by kernel_rfl)) (fun _ _ _ h => h) (Or.inl ⟨by rfl, ?_⟩) hHeld ?_ ?_
    rotate_left
    ·rintro w' ⟨s0, s1, s2, s3⟩
     go_simp
     with_reducible rfl
    rotate_left
    ·simp only [Act.put, List.setIfInBounds_toArray, List.set_cons_zero, List.set_cons_succ, i64_w, i32_w]
     rfl
    refine pr_ 12 (some 58) (mkB 33 1058930687) HT_ ?_
    refine take_ (i := 17) (N := some 63) (v := ?_) (a' := ?_) (mkB 33 1059061759) rfl rfl (take_ofW HT_.out HW_.out (by kernel_rfl)) (fun _ _ _ h => h) (Or.inl ⟨by rfl, ?_⟩) hHeld ?_ ?_
    rotate_left
    ·rintro w' ⟨s0, s1, s2, s3⟩
     go_simp
     with_reducible rfl
    rotate_left
    ·simp only [Act.put, List.setIfInBounds_toArray, List.set_cons_zero, List.set_cons_succ, i64_w, i32_w]
     rfl
    refine take_ (i := 21) (N := some 67) (v := ?_) (a' := ?_) (mkB 33 1061158911) rfl rfl (take_ofW HT_.out HW_.out (by kernel_rfl)) (fun _ _ _ h => h) (Or.inl ⟨by rfl, ?_⟩) hHeld ?_ ?_
    rotate_left
    ·rintro w' ⟨s0, s1, s2, s3⟩
     go_simp
     with_reducible rfl
    rotate_left
    ·simp only [Act.put, List.setIfInBounds_toArray, List.set_cons_zero, List.set_cons_succ, i64_w, i32_w]
     rfl
    refine pr_ 22 (some 68) (mkB 33 1065353215) HT_ ?_
    refine pr_ 23 (some 69) (mkB 33 1073741823) HT_ ?_
    refine one_ (i := 30) (N := some 76) (mkB 33 2147483647) rfl rfl (one_of HT_.out (by kernel_rfl)) (by decide) (fun K hK => ?_)
    refine goes_ Try.func71 (by kernel_rfl) rfl #[.slice (some ad103) l0.length c0, .int .i64 a1, .int .i64 a2, .int .i64 ji16, .int .i64 x11_1] (by rfl) rfl rfl (by (try simp only [List.map_toArray, List.map_cons, List.map_nil]); first | done | (simp only [hji16]; rfl) | rfl | (simp only [List.length_drop, List.length_take]; rfl)) ?_
    with_reducible refine (dropperref02_steps.calls k1 _ _ l0 a1 a2 ji16 x11_1 t111 _ ?side1 ?side2 A20.out).mono ?_
    (case side1 => exact cU (Kd.C_below HR0.out HB.out))
    (case side2 => exact HC0.out)
    rintro e w27 ⟨rfl, hb⟩
    refine ⟨_, rfl, ?_⟩
    have n0_ := A_ (below_step (bW0 HB.out) hb)
    clear HB
    have HB := n0_
    clear n0_
    (try clear hb)
    (try clear hb2)
    (try clear hk)
    (try clear hi)
    refine hK.out _ _ ⟨(pw_cell_below HB.out hw107_0), (pw_cell_below HB.out hw108_0), (pw_cell_below HB.out hw109_0), (pw_cell_below HB.out hw110_0)⟩ (fun hHeld => ?_)
    clear hK K
    refine norm_ (a' := ?_) ?_ ?_
    rotate_left
    ·show Act.put _ (some 76) _ = _
     simp only [Act.put, List.setIfInBounds_toArray, List.set_cons_zero, List.set_cons_succ, i64_w, i32_w]
     rfl
    refine pr_ 31 (some 77) (mkB 33 4294967295) HT_ ?_
    refine pr_ 32 (some 78) (mkB 33 8589934591) HT_ ?_
    refine done_ (done_of HT_.out (by kernel_rfl)) ?_
    try go_wp2
    go_roundg k1
    case measure => have := HK1.out; omega
    case rel => exact ⟨(wrap64 (x11_1 + 1)), (by first | rfl | (simp; done) | (simp [*]; done)), H', ⟨by have := HK1.out; omega⟩, ⟨by repeat (first | (with_reducible first | exact HB.out | apply below_alloc | apply pw_below_drewN | apply below_drew1) | exact HB.out)⟩⟩
   rw [if_pos c21] at H
   have c21b0 : decide (t111 < (ji19)) = true := decide_eq_true c21
   clear c21
   simp only [Option.some.injEq, Prod.mk.injEq] at H
   obtain ⟨rfl, rfl⟩ := H
   try go_wp2
   have n0_ := A_ (below_drew1 HB.out)
   clear HB
   have HB := n0_
   clear n0_
   have p103 : 0 ≤ (x11_1 : Int) := of_decide_eq_true (by first | (with_reducible assumption) | assumption)
   have q103 : x11_1 < (l0.length : Int) := of_decide_eq_true (by first | (with_reducible assumption) | assumption)
   obtain ⟨ad103, e103, hx103_0, hx103_1, hx103_2⟩ := at_T72 HR0.out x11_1 p103 q103
   have hw103_2 := hx103_2
   have hw103_1 := hx103_1
   have hw103_0 := hx103_0
   cases e103
   replace hx103_0 := (HB.out.cell (World.block_lt_of_cell? w _ hx103_0)).trans hx103_0
   replace hx103_1 := (HB.out.cell (World.block_lt_of_cell? w _ hx103_1)).trans hx103_1
   replace hx103_2 := (HB.out.cell (World.block_lt_of_cell? w _ hx103_2)).trans hx103_2
   replace p103 := eq_true p103
   replace q103 := eq_true q103
   have p104 : 0 ≤ (x11_1 : Int) := of_decide_eq_true (by first | (with_reducible assumption) | assumption)
   have q104 : x11_1 < (l3.length : Int) := of_decide_eq_true (by first | (with_reducible assumption) | assumption)
   obtain ⟨ad104, e104, hx104_0⟩ := Kd.at_int HR3.out x11_1 p104 q104
   have hw104_0 := hx104_0
   cases e104
   replace hx104_0 := (HB.out.cell (World.block_lt_of_cell? w _ hx104_0)).trans hx104_0
   replace p104 := eq_true p104
   replace q104 := eq_true q104
   have p105 : 0 ≤ (x11_1 : Int) := of_decide_eq_true (by first | (with_reducible assumption) | assumption)
   have q105 : x11_1 < (l0.length : Int) := of_decide_eq_true (by first | (with_reducible assumption) | assumption)
   obtain ⟨ad105, e105, hx105_0, hx105_1, hx105_2⟩ := at_T72 HR0.out x11_1 p105 q105
   have hw105_2 := hx105_2
   have hw105_1 := hx105_1
   have hw105_0 := hx105_0
   obtain rfl : ad103 = ad105 := (by injection e105)
   replace hx105_0 := (HB.out.cell (World.block_lt_of_cell? w _ hx105_0)).trans hx105_0
   replace hx105_1 := (HB.out.cell (World.block_lt_of_cell? w _ hx105_1)).trans hx105_1
   replace hx105_2 := (HB.out.cell (World.block_lt_of_cell? w _ hx105_2)).trans hx105_2
   replace p105 := eq_true p105
   replace q105 := eq_true q105
   refine start_ (n := 16) (S := fun w' => w'.cell? (ad103.add ((x11_1).toNat * 3)) = some (.int .i64 ((rd_T72 l0 x11_1).f0)) ∧ w'.cell? ⟨(ad103.add ((x11_1).toNat * 3)).block, (ad103.add ((x11_1).toNat * 3)).off + 1, none⟩ = some (.int .i64 ((rd_T72 l0 x11_1).f1)) ∧ w'.cell? ⟨(ad103.add ((x11_1).toNat * 3)).block, (ad103.add ((x11_1).toNat * 3)).off + 2, none⟩ = some (.int .i64 ((rd_T72 l0 x11_1).f2)) ∧ w'.cell? (ad104.add (x11_1).toNat) = some (.int .i64 (rd l3 x11_1)) ∧ w'.cell? (ad103.add ((x11_1).toNat * 3)) = some (.int .i64 ((rd_T72 l0 x11_1).f0)) ∧ w'.cell? ⟨(ad103.add ((x11_1).toNat * 3)).block, (ad103.add ((x11_1).toNat * 3)).off + 1, none⟩ = some (.int .i64 ((rd_T72 l0 x11_1).f1)) ∧ w'.cell? ⟨(ad103.add ((x11_1).toNat * 3)).block, (ad103.add ((x11_1).toNat * 3)).off + 2, none⟩ = some (.int .i64 ((rd_T72 l0 x11_1).f2))) (ds := []) (mkB 16 0) (by kernel_rfl) rfl rfl ⟨(pw_cell_below HB.out hw103_0), (pw_cell_below HB.out hw103_1), (pw_cell_below HB.out hw103_2), (pw_cell_below HB.out hw104_0), (pw_cell_below HB.out hw105_0), (pw_cell_below HB.out hw105_1), (pw_cell_below HB.out hw105_2)⟩ (fun hHeld => ?_); refine with_tabW dropperref02_Fits.tab9 dropperref02_Fits.bits9 (fun HT_ HW_ => ?_)
   generalize wr.drew = w22 at HB hx103_0 hx103_1 hx103_2 hx104_0 hx105_0 hx105_1 hx105_2 hHeld ⊢
   refine pr_ 0 (some 30) (mkB 16 1) HT_ ?_
   refine pr_ 1 (some 31) (mkB 16 3) HT_ ?_
   refine pr_ 2 (some 32) (mkB 16 7) HT_ ?_
   refine pr_ 3 (some 33) (mkB 16 15) HT_ ?_
   refine pr_ 5 (some 35) (mkB 16 47) HT_ ?_
   refine pr_ 6 (some 36) (mkB 16 111) HT_ ?_
   refine pr_ 7 (some 37) (mkB 16 239) HT_ ?_
   refine pr_ 9 (some 39) (mkB 16 751) HT_ ?_
   refine pr_ 10 (some 40) (mkB 16 1775) HT_ ?_
   refine pr_ 11 (some 41) (mkB 16 3823) HT_ ?_
   refine pr_ 12 (some 42) (mkB 16 7919) HT_ ?_
   refine take_ (i := 4) (N := some 34) (v := ?_) (a' := ?_) (mkB 16 7935) rfl rfl (take_ofW HT_.out HW_.out (by kernel_rfl)) (fun _ _ _ h => h) (Or.inl ⟨by rfl, ?_⟩) hHeld ?_ ?_
   rotate_left
   ·rintro w' ⟨s0, s1, s2, s3, s4, s5, s6⟩
    go_simp
    with_reducible rfl
   rotate_left
   ·simp only [Act.put, List.setIfInBounds_toArray, List.set_cons_zero, List.set_cons_succ, i64_w, i32_w]
    rfl
   refine take_ (i := 8) (N := some 38) (v := ?_) (a' := ?_) (mkB 16 8191) rfl rfl (take_ofW HT_.out HW_.out (by kernel_rfl)) (fun _ _ _ h => h) (Or.inl ⟨by rfl, ?_⟩) hHeld ?_ ?_
   rotate_left
   ·rintro w' ⟨s0, s1, s2, s3, s4, s5, s6⟩
    go_simp
    with_reducible rfl
   rotate_left
   ·simp only [Act.put, List.setIfInBounds_toArray, List.set_cons_zero, List.set_cons_succ, i64_w, i32_w]
    rfl
   refine take_ (i := 13) (N := some 43) (v := ?_) (a' := ?_) (mkB 16 16383) rfl rfl (take_ofW HT_.out HW_.out (by kernel_rfl)) (fun _ _ _ h => h) (Or.inl ⟨by rfl, ?_⟩) hHeld ?_ ?_
   rotate_left
   ·rintro w' ⟨s0, s1, s2, s3, s4, s5, s6⟩
    go_simp
    with_reducible rfl
   rotate_left
   ·simp only [Act.put, List.setIfInBounds_toArray, List.set_cons_zero, List.set_cons_succ, i64_w, i32_w]
    rfl
   refine one_ (i := 14) (N := some 44) (mkB 16 32767) rfl rfl (one_of HT_.out (by kernel_rfl)) (by decide) (fun K hK => ?_)
   refine goes_ Try.func57 (by kernel_rfl) rfl #[.int .i64 ((rd_T72 l0 x11_1).f1), .int .i64 (rd l3 x11_1), .int .i64 ((rd_T72 l0 x11_1).f2)] (by rfl) rfl rfl (by (try simp only [List.map_toArray, List.map_cons, List.map_nil]); first | done | rfl | (simp only [List.length_drop, List.length_take]; rfl)) ?_
   with_reducible refine (dropperref02_from.calls ((rd_T72 l0 x11_1).f1) (rd l3 x11_1) ((rd_T72 l0 x11_1).f2) true _ A13.out).mono ?_
   rintro e w' ⟨rfl, ⟨nd, rfl⟩⟩
   refine ⟨_, rfl, ?_⟩
   refine hK.out _ _ ⟨(pw_cell_below HB.out hw103_0), (pw_cell_below HB.out hw103_1), (pw_cell_below HB.out hw103_2), (pw_cell_below HB.out hw104_0), (pw_cell_below HB.out hw105_0), (pw_cell_below HB.out hw105_1), (pw_cell_below HB.out hw105_2)⟩ (fun hHeld => ?_)
   clear hK K
   refine norm_ (a' := ?_) ?_ ?_
   rotate_left
   ·show Act.put _ (some 44) _ = _
    simp only [Act.put, List.setIfInBounds_toArray, List.set_cons_zero, List.set_cons_succ, i64_w, i32_w]
    rfl
   refine pr_ 15 (some 45) (mkB 16 65535) HT_ ?_
   refine done_ (done_of HT_.out (by kernel_rfl)) ?_
   try go_wp2
   (try (rw [drewN_self w22]; generalize hq_ : World.drewN w22 _ = w22; have n0_ : Aside0 (Below w.heap.size w w22) := ⟨by rw [← hq_]; exact (bW0 HB.out)⟩; clear HB hq_; have HB := n0_; clear n0_))
   have n0_ := A_ (below_drew1 HB.out)
   clear HB
   have HB := n0_
   clear n0_
   have p107 : 0 ≤ (x11_1 : Int) := of_decide_eq_true (by first | (with_reducible assumption) | assumption)
   have q107 : x11_1 < (l3.length : Int) := of_decide_eq_true (by first | (with_reducible assumption) | assumption)
   obtain ⟨ad107, e107, hx107_0⟩ := Kd.at_int HR3.out x11_1 p107 q107
   have hw107_0 := hx107_0
   obtain rfl : ad104 = ad107 := (by injection e107)
   replace hx107_0 := (HB.out.cell (World.block_lt_of_cell? w _ hx107_0)).trans hx107_0
   replace p107 := eq_true p107
   replace q107 := eq_true q107
   have p108 : 0 ≤ ((ji16) : Int) := of_decide_eq_true (by first | (with_reducible assumption) | assumption)
   have q108 : (ji16) < (l3.length : Int) := of_decide_eq_true (by first | (with_reducible assumption) | assumption)
   obtain ⟨ad108, e108, hx108_0⟩ := Kd.at_int HR3.out (ji16) p108 q108
   have hw108_0 := hx108_0
   obtain rfl : ad104 = ad108 := (by injection e108)
   replace hx108_0 := (HB.out.cell (World.block_lt_of_cell? w _ hx108_0)).trans hx108_0
   replace p108 := eq_true p108
   replace q108 := eq_true q108
   have p109 : 0 ≤ ((ji16) : Int) := of_decide_eq_true (by first | (with_reducible assumption) | assumption)
   have q109 : (ji16) < (l3.length : Int) := of_decide_eq_true (by first | (with_reducible assumption) | assumption)
   obtain ⟨ad109, e109, hx109_0⟩ := Kd.at_int HR3.out (ji16) p109 q109
   have hw109_0 := hx109_0
   obtain rfl : ad104 = ad109 := (by injection e109)
   replace hx109_0 := (HB.out.cell (World.block_lt_of_cell? w _ hx109_0)).trans hx109_0
   replace p109 := eq_true p109
   replace q109 := eq_true q109
   have p110 : 0 ≤ (x11_1 : Int) := of_decide_eq_true (by first | (with_reducible assumption) | assumption)
   have q110 : x11_1 < (l3.length : Int) := of_decide_eq_true (by first | (with_reducible assumption) | assumption)
   obtain ⟨ad110, e110, hx110_0⟩ := Kd.at_int HR3.out x11_1 p110 q110
   have hw110_0 := hx110_0
   obtain rfl : ad104 = ad110 := (by injection e110)
   replace hx110_0 := (HB.out.cell (World.block_lt_of_cell? w _ hx110_0)).trans hx110_0
   replace p110 := eq_true p110
   replace q110 := eq_true q110
   refine start_ (n := 33) (S := fun w' => w'.cell? (ad104.add (x11_1).toNat) = some (.int .i64 (rd l3 x11_1)) ∧ w'.cell? (ad104.add ((ji16)).toNat) = some (.int .i64 (rd l3 (ji16))) ∧ w'.cell? (ad104.add ((ji16)).toNat) = some (.int .i64 (rd l3 (ji16))) ∧ w'.cell? (ad104.add (x11_1).toNat) = some (.int .i64 (rd l3 x11_1))) (ds := []) (mkB 33 0) (by kernel_rfl) rfl rfl ⟨(pw_cell_below HB.out hw107_0), (pw_cell_below HB.out hw108_0), (pw_cell_below HB.out hw109_0), (pw_cell_below HB.out hw110_0)⟩ (fun hHeld => ?_); refine with_tabW dropperref02_Fits.tab11 dropperref02_Fits.bits11 (fun HT_ HW_ => ?_)
   generalize w22.drew = w23 at HB hx107_0 hx108_0 hx109_0 hx110_0 hHeld ⊢
   refine pr_ 0 (some 46) (mkB 33 1) HT_ ?_
   refine pr_ 1 (some 47) (mkB 33 3) HT_ ?_
   refine pr_ 2 (some 48) (mkB 33 7) HT_ ?_
   refine pr_ 3 (some 49) (mkB 33 15) HT_ ?_
   refine pr_ 4 (some 50) (mkB 33 31) HT_ ?_
   refine pr_ 5 (some 51) (mkB 33 63) HT_ ?_
   refine pr_ 7 (some 53) (mkB 33 191) HT_ ?_
   refine pr_ 8 (some 54) (mkB 33 447) HT_ ?_
   refine pr_ 9 (some 55) (mkB 33 959) HT_ ?_
   refine pr_ 10 (some 56) (mkB 33 1983) HT_ ?_
   refine pr_ 13 (some 59) (mkB 33 10175) HT_ ?_
   refine pr_ 14 (some 60) (mkB 33 26559) HT_ ?_
   refine pr_ 15 (some 61) (mkB 33 59327) HT_ ?_
   refine pr_ 16 (some 62) (mkB 33 124863) HT_ ?_
   refine pr_ 18 (some 64) (mkB 33 387007) HT_ ?_
   refine pr_ 19 (some 65) (mkB 33 911295) HT_ ?_
   refine pr_ 20 (some 66) (mkB 33 1959871) HT_ ?_
   refine pr_ 24 (some 70) (mkB 33 18737087) HT_ ?_
   refine pr_ 25 (some 71) (mkB 33 52291519) HT_ ?_
   refine pr_ 26 (some 72) (mkB 33 119400383) HT_ ?_
   refine pr_ 27 (some 73) (mkB 33 253618111) HT_ ?_
   refine pr_ 28 (some 74) (mkB 33 522053567) HT_ ?_
   refine pr_ 29 (some 75) (mkB 33 1058924479) HT_ ?_
   refine take_ (i := 6) (N := some 52) (v := ?_) (a' := ?_) (mkB 33 1058924543) rfl rfl (take_ofW HT_.out HW_.out (by kernel_rfl)) (fun _ _ _ h => h) (Or.inl ⟨by rfl, ?_⟩) hHeld ?_ ?_
   rotate_left
   ·rintro w' ⟨s0, s1, s2, s3⟩
    go_simp
    with_reducible rfl
   rotate_left
   ·simp only [Act.put, List.setIfInBounds_toArray, List.set_cons_zero, List.set_cons_succ, i64_w, i32_w]
    rfl
   refine take_ (i := 11) (N := some 57) (v := ?_) (a' := ?_) (mkB 33 1058926591) rfl rfl (take_ofW HT_.out HW_.out (by kernel_rfl)) (fun _ _ _ h => h) (Or.inl ⟨by rfl, ?_⟩) hHeld ?_ ?_
   rotate_left
   ·rintro w' ⟨s0, s1, s2, s3⟩
    go_simp
    with_reducible rfl
   rotate_left
   ·simp only [Act.put, List.setIfInBounds_toArray, List.set_cons_zero, List.set_cons_succ, i64_w, i32_w]
    rfl
   refine pr_ 12 (some 58) (mkB 33 1058930687) HT_ ?_
   refine take_ (i := 17) (N := some 63) (v := ?_) (a' := ?_) (mkB 33 1059061759) rfl rfl (take_ofW HT_.out HW_.out (by kernel_rfl)) (fun _ _ _ h => h) (Or.inl ⟨by rfl, ?_⟩) hHeld ?_ ?_
   rotate_left
   ·rintro w' ⟨s0, s1, s2, s3⟩
    go_simp
    with_reducible rfl
   rotate_left
   ·simp only [Act.put, List.setIfInBounds_toArray, List.set_cons_zero, List.set_cons_succ, i64_w, i32_w]
    rfl
   refine take_ (i := 21) (N := some 67) (v := ?_) (a' := ?_) (mkB 33 1061158911) rfl rfl (take_ofW HT_.out HW_.out (by kernel_rfl)) (fun _ _ _ h => h) (Or.inl ⟨by rfl, ?_⟩) hHeld ?_ ?_
   rotate_left
   ·rintro w' ⟨s0, s1, s2, s3⟩
    go_simp
    with_reducible rfl
   rotate_left
   ·simp only [Act.put, List.setIfInBounds_toArray, List.set_cons_zero, List.set_cons_succ, i64_w, i32_w]
    rfl
   refine pr_ 22 (some 68) (mkB 33 1065353215) HT_ ?_
   refine pr_ 23 (some 69) (mkB 33 1073741823) HT_ ?_
   refine one_ (i := 30) (N := some 76) (mkB 33 2147483647) rfl rfl (one_of HT_.out (by kernel_rfl)) (by decide) (fun K hK => ?_)
   refine goes_ Try.func71 (by kernel_rfl) rfl #[.slice (some ad103) l0.length c0, .int .i64 a1, .int .i64 a2, .int .i64 ji16, .int .i64 x11_1] (by rfl) rfl rfl (by (try simp only [List.map_toArray, List.map_cons, List.map_nil]); first | done | (simp only [hji16]; rfl) | rfl | (simp only [List.length_drop, List.length_take]; rfl)) ?_
   with_reducible refine (dropperref02_steps.calls k1 _ _ l0 a1 a2 ji16 x11_1 t111 _ ?side1 ?side2 A20.out).mono ?_
   (case side1 => exact cU (Kd.C_below HR0.out HB.out))
   (case side2 => exact HC0.out)
   rintro e w24 ⟨rfl, hb⟩
   refine ⟨_, rfl, ?_⟩
   have n0_ := A_ (below_step (bW0 HB.out) hb)
   clear HB
   have HB := n0_
   clear n0_
   (try clear hb)
   (try clear hb2)
   (try clear hk)
   (try clear hi)
   refine hK.out _ _ ⟨(pw_cell_below HB.out hw107_0), (pw_cell_below HB.out hw108_0), (pw_cell_below HB.out hw109_0), (pw_cell_below HB.out hw110_0)⟩ (fun hHeld => ?_)
   clear hK K
   refine norm_ (a' := ?_) ?_ ?_
   rotate_left
   ·show Act.put _ (some 76) _ = _
    simp only [Act.put, List.setIfInBounds_toArray, List.set_cons_zero, List.set_cons_succ, i64_w, i32_w]
    rfl
   refine pr_ 31 (some 77) (mkB 33 4294967295) HT_ ?_
   refine pr_ 32 (some 78) (mkB 33 8589934591) HT_ ?_
   refine done_ (done_of HT_.out (by kernel_rfl)) ?_
   try go_wp2
   go_ret2
   exact ⟨by first | rfl | (simp [errW_none, errW_some] <;> rfl) | (simp only [← hji16, ← hji19]; first | rfl | (simp [errW_none, errW_some] <;> rfl)) | (simp [*, errW_none, errW_some] <;> rfl), by repeat (first | (with_reducible first | exact HB.out | apply below_alloc | apply pw_below_drewN | apply below_drew1) | exact HB.out)⟩
end Go.Proofs.Ytciepmpadcpkbaa.G
