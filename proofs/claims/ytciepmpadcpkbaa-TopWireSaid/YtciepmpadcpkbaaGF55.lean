-- Written by this session's driver (wip/tools/printmore.py) over the kit's print, with hand-written parts.
import Derived.Test.YtciepmpadcpkbaaGBase
import Derived.Test.YtciepmpadcpkbaaGF71
namespace Go.Proofs.Ytciepmpadcpkbaa.G
open Go.RowKit Go.Proofs.YtciepmpadcpkbaaW.PrintWords Go.Proofs.YtciepmpadcpkbaaW.PrintLast Go.Proofs.YtciepmpadcpkbaaW.PrintMore
attribute [local go_sem] max2_int min2_int max_two min_two max_three min_three max_four min_four   -- for this text's walks alone
set_option linter.unusedVariables false
set_option linter.unusedSimpArgs false

/-! ### dropperref02_clashes: function 55 -/
def dropperref02_clashes.f (k : Nat) (l0 : List (S72)) (a1 : Int) (a2 : Int) (a3 : Int) (a4 : Int) : Option (Bool) := if 0 ≤ a3 then (if a3 < (l0.length : Int) then (if 0 ≤ a4 then (if a4 < (l0.length : Int) then ((dropperref02_steps.f k l0 a1 a2 a3 a4).bind fun t103 => (some (decide (((rd_T72 l0 a3).f1) > (wrap64 (((rd_T72 l0 a4).f2) + t103)))))) else (none)) else (none)) else (none)) else (none)
theorem dropperref02_clashes.mono : ∀ a0 a1 a2 a3 a4 k, LeO (dropperref02_clashes.f k a0 a1 a2 a3 a4) (dropperref02_clashes.f (k + 1) a0 a1 a2 a3 a4) := by
 intro a0 a1 a2 a3 a4 k
 unfold dropperref02_clashes.f
 repeat' first
   | (with_reducible exact dropperref02_steps.mono _ _ _ _ _ _)
   | (with_reducible exact LeO.refl _)
   | (with_reducible exact LeO.none _)
   | (with_reducible refine LeO.ite ?_ ?_)
   | (with_reducible refine LeO.bind ?_ (fun _ => ?_))
   | exact dropperref02_steps.mono _ _ _ _ _ _
   | exact LeO.none _
   | refine LeO.ite ?_ ?_
   | refine LeO.bind ?_ (fun _ => ?_)
def dropperref02_clashes.T1 : Bool × List (List Nat × List Nat) := (true, [([], []), ([], []), ([0, 1], [0, 1]), ([2], [2]), ([3], [3]), ([], []), ([], []), ([5, 6], [5, 6]), ([7], [7]), ([8], [8]), ([], []), ([], []), ([], []), ([], []), ([], []), ([10, 11, 12, 13, 14], [10, 11, 12, 13, 14]), ([9, 15], [9, 15]), ([4, 16], [4, 16]), ([17, 15, 0, 1, 2, 3, 4, 5, 6, 7, 8, 9, 10, 11, 12, 13, 14, 15, 16, 17], [17])])
def dropperref02_clashes.B1 : List Nat := [0, 0, 3, 7, 15, 0, 0, 96, 224, 480, 0, 0, 0, 0, 0, 31744, 65504, 131071, 262143]
theorem dropperref02_clashes.tab1 : rtab .any (opsOf Try.f55 1) = dropperref02_clashes.T1 := by kernel_rfl
theorem dropperref02_clashes.bits1 : waitsOk dropperref02_clashes.T1.2 dropperref02_clashes.B1 = true := by kernel_rfl
set_option maxHeartbeats 8000000 in
set_option maxRecDepth 100000 in
theorem dropperref02_clashes.calls (k : Nat) (A0 : Option Addr) (c0 : Nat) (l0 : List (S72)) (a1 : Int) (a2 : Int) (a3 : Int) (a4 : Int) (r : Bool) (w : World) (hr0 : Kd.C k72 w A0 l0.length l0) (hc0 : l0.length ≤ c0) (h : dropperref02_clashes.f k l0 a1 a2 a3 a4 = some r) :
  Calls Try.prog 55 #[.slice A0 l0.length c0, .int .i64 a1, .int .i64 a2, .int .i64 a3, .int .i64 a4] w fun e w' => e = .returned (.bool r) ∧ Below w.heap.size w w' := by
 have HR0 := A_ hr0
 have HC0 := A_ hc0
 clear hr0 hc0
 have HB := A_ (Below.refl w.heap.size w)
 have H : (if 0 ≤ a3 then (if a3 < (l0.length : Int) then (if 0 ≤ a4 then (if a4 < (l0.length : Int) then ((dropperref02_steps.f k l0 a1 a2 a3 a4).bind fun t103 => (some (decide (((rd_T72 l0 a3).f1) > (wrap64 (((rd_T72 l0 a4).f2) + t103)))))) else (none)) else (none)) else (none)) else (none)) = some r := h
 clear h
 by_cases c6 : 0 ≤ a3
 rotate_left
 ·rw [if_neg c6] at H
  exact absurd H (by simp)

 rw [if_pos c6] at H
 have c6b0 : decide (0 ≤ a3) = true := decide_eq_true c6
 clear c6
 by_cases c7 : a3 < (l0.length : Int)
 rotate_left
 ·rw [if_neg c7] at H
  exact absurd H (by simp)
 rw [if_pos c7] at H
 have c7b0 : decide (a3 < (l0.length : Int)) = true := decide_eq_true c7
 clear c7
 by_cases c8 : 0 ≤ a4
 rotate_left
 ·rw [if_neg c8] at H
  exact absurd H (by simp)
 rw [if_pos c8] at H
 have c8b0 : decide (0 ≤ a4) = true := decide_eq_true c8
 clear c8
 by_cases c9 : a4 < (l0.length : Int)
 rotate_left
 ·rw [if_neg c9] at H
  exact absurd H (by simp)
 rw [if_pos c9] at H
 have c9b0 : decide (a4 < (l0.length : Int)) = true := decide_eq_true c9
 clear c9
 replace H := Option.bind_eq_some_iff.mp H
 obtain ⟨t103, A100, H⟩ := H
 replace H : (some (decide (((rd_T72 l0 a3).f1) > (wrap64 (((rd_T72 l0 a4).f2) + t103))))) = some r := H
 have A10 := A_ A100
 clear A100
 obtain rfl := Option.some.inj H
 go_enter Try.func55, Try.ntmps55
 try go_wp2
 have n0_ := A_ (below_drew1 HB.out)
 clear HB
 have HB := n0_
 clear n0_
 have p101 : 0 ≤ (a3 : Int) := of_decide_eq_true (by first | (with_reducible assumption) | assumption)
 have q101 : a3 < (l0.length : Int) := of_decide_eq_true (by first | (with_reducible assumption) | assumption)
 obtain ⟨ad101, e101, hx101_0, hx101_1, hx101_2⟩ := at_T72 HR0.out a3 p101 q101
 have hw101_2 := hx101_2
 have hw101_1 := hx101_1
 have hw101_0 := hx101_0
 cases e101
 replace hx101_0 := (HB.out.cell (World.block_lt_of_cell? w _ hx101_0)).trans hx101_0
 replace hx101_1 := (HB.out.cell (World.block_lt_of_cell? w _ hx101_1)).trans hx101_1
 replace hx101_2 := (HB.out.cell (World.block_lt_of_cell? w _ hx101_2)).trans hx101_2
 replace p101 := eq_true p101
 replace q101 := eq_true q101
 have p102 : 0 ≤ (a4 : Int) := of_decide_eq_true (by first | (with_reducible assumption) | assumption)
 have q102 : a4 < (l0.length : Int) := of_decide_eq_true (by first | (with_reducible assumption) | assumption)
 obtain ⟨ad102, e102, hx102_0, hx102_1, hx102_2⟩ := at_T72 HR0.out a4 p102 q102
 have hw102_2 := hx102_2
 have hw102_1 := hx102_1
 have hw102_0 := hx102_0
 obtain rfl : ad101 = ad102 := (by injection e102)
 replace hx102_0 := (HB.out.cell (World.block_lt_of_cell? w _ hx102_0)).trans hx102_0
 replace hx102_1 := (HB.out.cell (World.block_lt_of_cell? w _ hx102_1)).trans hx102_1
 replace hx102_2 := (HB.out.cell (World.block_lt_of_cell? w _ hx102_2)).trans hx102_2
 replace p102 := eq_true p102
 replace q102 := eq_true q102
 refine start_ (n := 19) (S := fun w' => w'.cell? (ad101.add ((a3).toNat * 3)) = some (.int .i64 ((rd_T72 l0 a3).f0)) ∧ w'.cell? ⟨(ad101.add ((a3).toNat * 3)).block, (ad101.add ((a3).toNat * 3)).off + 1, none⟩ = some (.int .i64 ((rd_T72 l0 a3).f1)) ∧ w'.cell? ⟨(ad101.add ((a3).toNat * 3)).block, (ad101.add ((a3).toNat * 3)).off + 2, none⟩ = some (.int .i64 ((rd_T72 l0 a3).f2)) ∧ w'.cell? (ad101.add ((a4).toNat * 3)) = some (.int .i64 ((rd_T72 l0 a4).f0)) ∧ w'.cell? ⟨(ad101.add ((a4).toNat * 3)).block, (ad101.add ((a4).toNat * 3)).off + 1, none⟩ = some (.int .i64 ((rd_T72 l0 a4).f1)) ∧ w'.cell? ⟨(ad101.add ((a4).toNat * 3)).block, (ad101.add ((a4).toNat * 3)).off + 2, none⟩ = some (.int .i64 ((rd_T72 l0 a4).f2))) (ds := []) (mkB 19 0) (by kernel_rfl) rfl rfl ⟨(pw_cell_below HB.out hw101_0), (pw_cell_below HB.out hw101_1), (pw_cell_below HB.out hw101_2), (pw_cell_below HB.out hw102_0), (pw_cell_below HB.out hw102_1), (pw_cell_below HB.out hw102_2)⟩ (fun hHeld => ?_); refine with_tabW dropperref02_clashes.tab1 dropperref02_clashes.bits1 (fun HT_ HW_ => ?_)
 generalize w.drew = w11 at HB hx101_0 hx101_1 hx101_2 hx102_0 hx102_1 hx102_2 hHeld ⊢
 refine pr_ 0 (some 11) (mkB 19 1) HT_ ?_
 refine pr_ 1 (some 12) (mkB 19 3) HT_ ?_
 refine pr_ 2 (some 13) (mkB 19 7) HT_ ?_
 refine pr_ 3 (some 14) (mkB 19 15) HT_ ?_
 refine pr_ 5 (some 16) (mkB 19 47) HT_ ?_
 refine pr_ 6 (some 17) (mkB 19 111) HT_ ?_
 refine pr_ 7 (some 18) (mkB 19 239) HT_ ?_
 refine pr_ 8 (some 19) (mkB 19 495) HT_ ?_
 refine pr_ 10 (some 21) (mkB 19 1519) HT_ ?_
 refine pr_ 11 (some 22) (mkB 19 3567) HT_ ?_
 refine pr_ 12 (some 23) (mkB 19 7663) HT_ ?_
 refine pr_ 13 (some 24) (mkB 19 15855) HT_ ?_
 refine pr_ 14 (some 25) (mkB 19 32239) HT_ ?_
 refine take_ (i := 4) (N := some 15) (v := ?_) (a' := ?_) (mkB 19 32255) rfl rfl (take_ofW HT_.out HW_.out (by kernel_rfl)) (fun _ _ _ h => h) (Or.inl ⟨by rfl, ?_⟩) hHeld ?_ ?_
 rotate_left
 ·rintro w' ⟨s0, s1, s2, s3, s4, s5⟩
  go_simp
  with_reducible rfl
 rotate_left
 ·simp only [Act.put, List.setIfInBounds_toArray, List.set_cons_zero, List.set_cons_succ, i64_w, i32_w]
  rfl
 refine take_ (i := 9) (N := some 20) (v := ?_) (a' := ?_) (mkB 19 32767) rfl rfl (take_ofW HT_.out HW_.out (by kernel_rfl)) (fun _ _ _ h => h) (Or.inl ⟨by rfl, ?_⟩) hHeld ?_ ?_
 rotate_left
 ·rintro w' ⟨s0, s1, s2, s3, s4, s5⟩
  go_simp
  with_reducible rfl
 rotate_left
 ·simp only [Act.put, List.setIfInBounds_toArray, List.set_cons_zero, List.set_cons_succ, i64_w, i32_w]
  rfl
 refine one_ (i := 15) (N := some 26) (mkB 19 65535) rfl rfl (one_of HT_.out (by kernel_rfl)) (by decide) (fun K hK => ?_)
 refine goes_ Try.func71 (by kernel_rfl) rfl #[.slice (some ad101) l0.length c0, .int .i64 a1, .int .i64 a2, .int .i64 a3, .int .i64 a4] (by rfl) rfl rfl (by (try simp only [List.map_toArray, List.map_cons, List.map_nil]); first | done | rfl | (simp only [List.length_drop, List.length_take]; rfl)) ?_
 with_reducible refine (dropperref02_steps.calls k _ _ l0 a1 a2 a3 a4 t103 _ ?side1 ?side2 A10.out).mono ?_
 (case side1 => exact cU (Kd.C_below HR0.out HB.out))
 (case side2 => exact HC0.out)
 rintro e w12 ⟨rfl, hb⟩
 refine ⟨_, rfl, ?_⟩
 have n0_ := A_ (below_step (bW0 HB.out) hb)
 clear HB
 have HB := n0_
 clear n0_
 (try clear hb)
 (try clear hb2)
 (try clear hk)
 (try clear hi)
 refine hK.out _ _ ⟨(pw_cell_below HB.out hw101_0), (pw_cell_below HB.out hw101_1), (pw_cell_below HB.out hw101_2), (pw_cell_below HB.out hw102_0), (pw_cell_below HB.out hw102_1), (pw_cell_below HB.out hw102_2)⟩ (fun hHeld => ?_)
 clear hK K
 refine norm_ (a' := ?_) ?_ ?_
 rotate_left
 ·show Act.put _ (some 26) _ = _
  simp only [Act.put, List.setIfInBounds_toArray, List.set_cons_zero, List.set_cons_succ, i64_w, i32_w]
  rfl
 refine pr_ 16 (some 27) (mkB 19 131071) HT_ ?_
 refine pr_ 17 (some 28) (mkB 19 262143) HT_ ?_
 refine pr_ 18 (some 10) (mkB 19 524287) HT_ ?_
 refine done_ (done_of HT_.out (by kernel_rfl)) ?_
 try go_wp2
 go_ret
 exact ⟨by first | rfl | (simp [errW_none, errW_some] <;> rfl) | (simp [*, errW_none, errW_some] <;> rfl), by repeat (first | (with_reducible first | exact HB.out | apply below_alloc | apply pw_below_drewN | apply below_drew1) | exact HB.out)⟩
end Go.Proofs.Ytciepmpadcpkbaa.G
