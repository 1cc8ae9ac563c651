-- Written by this session's driver (wip/tools/printmore.py) over the kit's print, with hand-written parts.
import Derived.Test.YtiapmkndgalgnaaGBase
import Derived.Test.YtiapmkndgalgnaaGF58
namespace Go.Proofs.Ytiapmkndgalgnaa.G
open Go.RowKit Go.Proofs.YtiapmkndgalgnaaW.PrintWords Go.Proofs.YtiapmkndgalgnaaW.PrintLast Go.Proofs.YtiapmkndgalgnaaW.PrintMore
attribute [local go_sem] max2_int min2_int max_two min_two max_three min_three max_four min_four   -- for this text's walks alone
set_option linter.unusedVariables false
set_option linter.unusedSimpArgs false

/-! ### arm_forbids: function 53 -/
def arm_forbids.f (k : Nat) (l0 : List (S73)) (a1_0 : Int) (a1_1 : Int) (a1_2 : Int) : Option (Bool) := if 0 ≤ a1_0 then (if a1_0 < (l0.length : Int) then (if 0 ≤ a1_1 then (if a1_1 < (l0.length : Int) then (if 0 ≤ a1_2 then (if a1_2 < (l0.length : Int) then ((arm_can.f k (([(⟨(rd_T73 l0 a1_0).f0, (rd_T73 l0 a1_0).f1, (rd_T73 l0 a1_0).f2⟩ : S73), (⟨(rd_T73 l0 a1_1).f0, (rd_T73 l0 a1_1).f1, (rd_T73 l0 a1_1).f2⟩ : S73), (⟨(rd_T73 l0 a1_2).f0, (rd_T73 l0 a1_2).f1, (rd_T73 l0 a1_2).f2⟩ : S73)] : List (S73)))).bind fun t108 => (some (!t108))) else (none)) else (none)) else (none)) else (none)) else (none)) else (none)
theorem arm_forbids.mono : ∀ a0 a1 a2 a3 k, LeO (arm_forbids.f k a0 a1 a2 a3) (arm_forbids.f (k + 1) a0 a1 a2 a3) := by
 intro a0 a1 a2 a3 k
 unfold arm_forbids.f
 repeat' first
   | (with_reducible exact arm_can.mono _ _)
   | (with_reducible exact LeO.refl _)
   | (with_reducible exact LeO.none _)
   | (with_reducible refine LeO.ite ?_ ?_)
   | (with_reducible refine LeO.bind ?_ (fun _ => ?_))
   | exact arm_can.mono _ _
   | exact LeO.none _
   | refine LeO.ite ?_ ?_
   | refine LeO.bind ?_ (fun _ => ?_)
def arm_forbids.T1 : Bool × List (List Nat × List Nat) := (true, [([], []), ([], []), ([1], [1]), ([0, 2], [0, 2]), ([3], [3]), ([], []), ([], []), ([6], [6]), ([5, 7], [5, 7]), ([8], [8]), ([], []), ([], []), ([11], [11]), ([10, 12], [10, 12]), ([13], [13]), ([4, 9, 14], [4, 9, 14]), ([15], [15]), ([16], [16]), ([17, 16, 0, 1, 2, 3, 4, 5, 6, 7, 8, 9, 10, 11, 12, 13, 14, 15, 16, 17], [17])])
def arm_forbids.B1 : List Nat := [0, 0, 2, 7, 15, 0, 0, 64, 224, 480, 0, 0, 2048, 7168, 15360, 32767, 65535, 131071, 262143]
theorem arm_forbids.tab1 : rtab .any (opsOf Try.f53 1) = arm_forbids.T1 := by kernel_rfl
theorem arm_forbids.bits1 : waitsOk arm_forbids.T1.2 arm_forbids.B1 = true := by kernel_rfl
set_option maxHeartbeats 8000000 in
set_option maxRecDepth 100000 in
theorem arm_forbids.calls (k : Nat) (A0 : Option Addr) (c0 : Nat) (l0 : List (S73)) (a1_0 : Int) (a1_1 : Int) (a1_2 : Int) (r : Bool) (w : World) (hr0 : Kd.C k73 w A0 l0.length l0) (hc0 : l0.length ≤ c0) (h : arm_forbids.f k l0 a1_0 a1_1 a1_2 = some r) :
  Calls Try.prog 53 #[.slice A0 l0.length c0, .agg #[.int .i64 a1_0, .int .i64 a1_1, .int .i64 a1_2]] w fun e w' => e = .returned (.bool r) ∧ Below w.heap.size w w' := by
 have hu31 := Try.underlying31; have hu73 := Try.underlying73; have HR0 := A_ hr0; have HC0 := A_ hc0; clear hr0 hc0; have HB := A_ (Below.refl w.heap.size w)
 have H : (if 0 ≤ a1_0 then (if a1_0 < (l0.length : Int) then (if 0 ≤ a1_1 then (if a1_1 < (l0.length : Int) then (if 0 ≤ a1_2 then (if a1_2 < (l0.length : Int) then ((arm_can.f k (([(⟨(rd_T73 l0 a1_0).f0, (rd_T73 l0 a1_0).f1, (rd_T73 l0 a1_0).f2⟩ : S73), (⟨(rd_T73 l0 a1_1).f0, (rd_T73 l0 a1_1).f1, (rd_T73 l0 a1_1).f2⟩ : S73), (⟨(rd_T73 l0 a1_2).f0, (rd_T73 l0 a1_2).f1, (rd_T73 l0 a1_2).f2⟩ : S73)] : List (S73)))).bind fun t108 => (some (!t108))) else (none)) else (none)) else (none)) else (none)) else (none)) else (none)) = some r := h
 clear h; by_cases c3 : 0 ≤ a1_0; rotate_left
 ·rw [if_neg c3] at H
  exact absurd H (by simp)

 rw [if_pos c3] at H; have c3b0 : decide (0 ≤ a1_0) = true := decide_eq_true c3; clear c3; by_cases c4 : a1_0 < (l0.length : Int); rotate_left
 ·rw [if_neg c4] at H
  exact absurd H (by simp)
 rw [if_pos c4] at H; have c4b0 : decide (a1_0 < (l0.length : Int)) = true := decide_eq_true c4; clear c4; by_cases c5 : 0 ≤ a1_1; rotate_left
 ·rw [if_neg c5] at H
  exact absurd H (by simp)
 rw [if_pos c5] at H; have c5b0 : decide (0 ≤ a1_1) = true := decide_eq_true c5; clear c5; by_cases c6 : a1_1 < (l0.length : Int); rotate_left
 ·rw [if_neg c6] at H
  exact absurd H (by simp)
 rw [if_pos c6] at H; have c6b0 : decide (a1_1 < (l0.length : Int)) = true := decide_eq_true c6; clear c6; by_cases c7 : 0 ≤ a1_2; rotate_left
 ·rw [if_neg c7] at H
  exact absurd H (by simp)
 rw [if_pos c7] at H; have c7b0 : decide (0 ≤ a1_2) = true := decide_eq_true c7; clear c7; by_cases c8 : a1_2 < (l0.length : Int); rotate_left
 ·rw [if_neg c8] at H
  exact absurd H (by simp)
 rw [if_pos c8] at H; have c8b0 : decide (a1_2 < (l0.length : Int)) = true := decide_eq_true c8; clear c8; obtain ⟨y105, hy105⟩ : ∃ y_ : List (S73), y_ = (([(⟨(rd_T73 l0 a1_0).f0, (rd_T73 l0 a1_0).f1, (rd_T73 l0 a1_0).f2⟩ : S73), (⟨(rd_T73 l0 a1_1).f0, (rd_T73 l0 a1_1).f1, (rd_T73 l0 a1_1).f2⟩ : S73), (⟨(rd_T73 l0 a1_2).f0, (rd_T73 l0 a1_2).f1, (rd_T73 l0 a1_2).f2⟩ : S73)] : List (S73))) := ⟨_, rfl⟩
 replace H : ((arm_can.f k y105).bind fun t108 => (some (!t108))) = some r := by first | (rw [hy105]; with_reducible exact H) | (have H2_ := (Option.bind_some _ _).symm.trans H; rw [hy105]; with_reducible exact H2_) | (have H2_ := (Option.bind_some _ _).symm.trans H; with_reducible exact H2_) | with_reducible exact H | (rw [hy105]; exact H) | exact H
 have Ny105 := A_ hy105; clear hy105; replace H := Option.bind_eq_some_iff.mp H; obtain ⟨t108, A90, H⟩ := H; (try dsimp only at H); have A9 := A_ A90; clear A90; obtain rfl := Option.some.inj H
 go_enter Try.func53, Try.ntmps53
 try go_wp2_with (first | ((with_reducible refine gate_dst (N := 3) rfl ?_); refine bxW 3 (cs := #[.int .i64 a1_0, .int .i64 a1_1, .int .i64 a1_2]) (t := 31) ?_; intro gb101 hg w10 hbox hb; have n0_ := A_ (below_step (bW0 HB.out) hb); have n1_ := A_ (hbox); have n2_ := A_ ((szG hg (bW0 HB.out))); have n3_ := A_ ((szG hg (bW0 HB.out))); clear HB; have HB := n0_; have BK101 := n1_; have GW101 := n2_; have GE101 := n3_; clear n0_ n1_ n2_ n3_; clear hb hbox hg))
 have n0_ := A_ (blk_drew BK101.out); have n1_ := A_ (below_drew1 HB.out); clear BK101 HB; have BK101 := n0_; have HB := n1_; clear n0_ n1_; have p102 : 0 ≤ (a1_0 : Int) := oD; have q102 : a1_0 < (l0.length : Int) := oD; obtain ⟨ad102, e102, hx102_0, hx102_1, hx102_2⟩ := at_T73 HR0.out a1_0 p102 q102; have hw102_2 := hx102_2; have hw102_1 := hx102_1; have hw102_0 := hx102_0
 cases e102
 replace hx102_0 := (HB.out.cell (World.block_lt_of_cell? w _ hx102_0)).trans hx102_0; replace hx102_1 := (HB.out.cell (World.block_lt_of_cell? w _ hx102_1)).trans hx102_1; replace hx102_2 := (HB.out.cell (World.block_lt_of_cell? w _ hx102_2)).trans hx102_2; replace p102 := eq_true p102; replace q102 := eq_true q102; have p103 : 0 ≤ (a1_1 : Int) := oD; have q103 : a1_1 < (l0.length : Int) := oD; obtain ⟨ad103, e103, hx103_0, hx103_1, hx103_2⟩ := at_T73 HR0.out a1_1 p103 q103; have hw103_2 := hx103_2; have hw103_1 := hx103_1; have hw103_0 := hx103_0
 obtain rfl : ad102 = ad103 := (by injection e103)
 replace hx103_0 := (HB.out.cell (World.block_lt_of_cell? w _ hx103_0)).trans hx103_0; replace hx103_1 := (HB.out.cell (World.block_lt_of_cell? w _ hx103_1)).trans hx103_1; replace hx103_2 := (HB.out.cell (World.block_lt_of_cell? w _ hx103_2)).trans hx103_2; replace p103 := eq_true p103; replace q103 := eq_true q103; have p104 : 0 ≤ (a1_2 : Int) := oD; have q104 : a1_2 < (l0.length : Int) := oD; obtain ⟨ad104, e104, hx104_0, hx104_1, hx104_2⟩ := at_T73 HR0.out a1_2 p104 q104; have hw104_2 := hx104_2; have hw104_1 := hx104_1; have hw104_0 := hx104_0
 obtain rfl : ad102 = ad104 := (by injection e104)
 replace hx104_0 := (HB.out.cell (World.block_lt_of_cell? w _ hx104_0)).trans hx104_0; replace hx104_1 := (HB.out.cell (World.block_lt_of_cell? w _ hx104_1)).trans hx104_1; replace hx104_2 := (HB.out.cell (World.block_lt_of_cell? w _ hx104_2)).trans hx104_2; replace p104 := eq_true p104; replace q104 := eq_true q104
 refine start_ (n := 19) (S := fun w' => w'.cell? ⟨gb101, 0, none⟩ = some (.int .i64 a1_0) ∧ w'.cell? ⟨gb101, 1, none⟩ = some (.int .i64 a1_1) ∧ w'.cell? ⟨gb101, 2, none⟩ = some (.int .i64 a1_2) ∧ w'.cell? (ad102.add ((a1_0).toNat * 3)) = some (.int .i64 ((rd_T73 l0 a1_0).f0)) ∧ w'.cell? ⟨(ad102.add ((a1_0).toNat * 3)).block, (ad102.add ((a1_0).toNat * 3)).off + 1, none⟩ = some (.int .i64 ((rd_T73 l0 a1_0).f1)) ∧ w'.cell? ⟨(ad102.add ((a1_0).toNat * 3)).block, (ad102.add ((a1_0).toNat * 3)).off + 2, none⟩ = some (.int .i64 ((rd_T73 l0 a1_0).f2)) ∧ w'.cell? (ad102.add ((a1_1).toNat * 3)) = some (.int .i64 ((rd_T73 l0 a1_1).f0)) ∧ w'.cell? ⟨(ad102.add ((a1_1).toNat * 3)).block, (ad102.add ((a1_1).toNat * 3)).off + 1, none⟩ = some (.int .i64 ((rd_T73 l0 a1_1).f1)) ∧ w'.cell? ⟨(ad102.add ((a1_1).toNat * 3)).block, (ad102.add ((a1_1).toNat * 3)).off + 2, none⟩ = some (.int .i64 ((rd_T73 l0 a1_1).f2)) ∧ w'.cell? (ad102.add ((a1_2).toNat * 3)) = some (.int .i64 ((rd_T73 l0 a1_2).f0)) ∧ w'.cell? ⟨(ad102.add ((a1_2).toNat * 3)).block, (ad102.add ((a1_2).toNat * 3)).off + 1, none⟩ = some (.int .i64 ((rd_T73 l0 a1_2).f1)) ∧ w'.cell? ⟨(ad102.add ((a1_2).toNat * 3)).block, (ad102.add ((a1_2).toNat * 3)).off + 2, none⟩ = some (.int .i64 ((rd_T73 l0 a1_2).f2))) (ds := []) (mkB 19 0) (by kernel_rfl) rfl rfl ⟨(blk_cell BK101.out 0).trans rfl, (blk_cell BK101.out 1).trans rfl, (blk_cell BK101.out 2).trans rfl, (pw_cell_below HB.out hw102_0), (pw_cell_below HB.out hw102_1), (pw_cell_below HB.out hw102_2), (pw_cell_below HB.out hw103_0), (pw_cell_below HB.out hw103_1), (pw_cell_below HB.out hw103_2), (pw_cell_below HB.out hw104_0), (pw_cell_below HB.out hw104_1), (pw_cell_below HB.out hw104_2)⟩ (fun hHeld => ?_); refine with_tabW arm_forbids.tab1 arm_forbids.bits1 (fun HT_ HW_ => ?_)
 generalize w10.drew = w11 at BK101 HB hx102_0 hx102_1 hx102_2 hx103_0 hx103_1 hx103_2 hx104_0 hx104_1 hx104_2 hHeld ⊢; refine pr_ 0 (some 5) (mkB 19 1) HT_ ?_; refine pr_ 1 (some 6) (mkB 19 3) HT_ ?_; refine pr_ 5 (some 10) (mkB 19 35) HT_ ?_; refine pr_ 6 (some 11) (mkB 19 99) HT_ ?_; refine pr_ 10 (some 15) (mkB 19 1123) HT_ ?_; refine pr_ 11 (some 16) (mkB 19 3171) HT_ ?_
 refine take_ (i := 2) (N := some 7) (v := ?_) (a' := ?_) (mkB 19 3175) rfl rfl (take_ofW HT_.out HW_.out (by kernel_rfl)) (fun _ _ _ h => h) (Or.inl ⟨by rfl, ?_⟩) hHeld ?_ ?_
 rotate_left
 ·rintro w' ⟨s0, s1, s2, s3, s4, s5, s6, s7, s8, s9, s10, s11⟩
  go_simp
  with_reducible rfl
 rotate_left
 ·simp only [Act.put, List.setIfInBounds_toArray, List.set_cons_zero, List.set_cons_succ, i64_w, i32_w]
  rfl
 refine pr_ 3 (some 8) (mkB 19 3183) HT_ ?_
 refine take_ (i := 4) (N := some 9) (v := ?_) (a' := ?_) (mkB 19 3199) rfl rfl (take_ofW HT_.out HW_.out (by kernel_rfl)) (fun _ _ _ h => h) (Or.inl ⟨by rfl, ?_⟩) hHeld ?_ ?_
 rotate_left
 ·rintro w' ⟨s0, s1, s2, s3, s4, s5, s6, s7, s8, s9, s10, s11⟩
  go_simp
  with_reducible rfl
 rotate_left
 ·simp only [Act.put, List.setIfInBounds_toArray, List.set_cons_zero, List.set_cons_succ, i64_w, i32_w]
  rfl
 refine take_ (i := 7) (N := some 12) (v := ?_) (a' := ?_) (mkB 19 3327) rfl rfl (take_ofW HT_.out HW_.out (by kernel_rfl)) (fun _ _ _ h => h) (Or.inl ⟨by rfl, ?_⟩) hHeld ?_ ?_
 rotate_left
 ·rintro w' ⟨s0, s1, s2, s3, s4, s5, s6, s7, s8, s9, s10, s11⟩
  go_simp
  with_reducible rfl
 rotate_left
 ·simp only [Act.put, List.setIfInBounds_toArray, List.set_cons_zero, List.set_cons_succ, i64_w, i32_w]
  rfl
 refine pr_ 8 (some 13) (mkB 19 3583) HT_ ?_
 refine take_ (i := 9) (N := some 14) (v := ?_) (a' := ?_) (mkB 19 4095) rfl rfl (take_ofW HT_.out HW_.out (by kernel_rfl)) (fun _ _ _ h => h) (Or.inl ⟨by rfl, ?_⟩) hHeld ?_ ?_
 rotate_left
 ·rintro w' ⟨s0, s1, s2, s3, s4, s5, s6, s7, s8, s9, s10, s11⟩
  go_simp
  with_reducible rfl
 rotate_left
 ·simp only [Act.put, List.setIfInBounds_toArray, List.set_cons_zero, List.set_cons_succ, i64_w, i32_w]
  rfl
 refine take_ (i := 12) (N := some 17) (v := ?_) (a' := ?_) (mkB 19 8191) rfl rfl (take_ofW HT_.out HW_.out (by kernel_rfl)) (fun _ _ _ h => h) (Or.inl ⟨by rfl, ?_⟩) hHeld ?_ ?_
 rotate_left
 ·rintro w' ⟨s0, s1, s2, s3, s4, s5, s6, s7, s8, s9, s10, s11⟩
  go_simp
  with_reducible rfl
 rotate_left
 ·simp only [Act.put, List.setIfInBounds_toArray, List.set_cons_zero, List.set_cons_succ, i64_w, i32_w]
  rfl
 refine pr_ 13 (some 18) (mkB 19 16383) HT_ ?_
 refine take_ (i := 14) (N := some 19) (v := ?_) (a' := ?_) (mkB 19 32767) rfl rfl (take_ofW HT_.out HW_.out (by kernel_rfl)) (fun _ _ _ h => h) (Or.inl ⟨by rfl, ?_⟩) hHeld ?_ ?_
 rotate_left
 ·rintro w' ⟨s0, s1, s2, s3, s4, s5, s6, s7, s8, s9, s10, s11⟩
  go_simp
  with_reducible rfl
 rotate_left
 ·simp only [Act.put, List.setIfInBounds_toArray, List.set_cons_zero, List.set_cons_succ, i64_w, i32_w]
  rfl
 refine one_ (i := 15) (N := some 20) (mkB 19 65535) rfl rfl (one_of HT_.out (by kernel_rfl)) (by decide) (fun K hK => ?_)
 refine Kd.R_lit_step k73 _ 73 ?hg (N := 20) ?hd (xs := ([(⟨(rd_T73 l0 a1_0).f0, (rd_T73 l0 a1_0).f1, (rd_T73 l0 a1_0).f2⟩ : S73), (⟨(rd_T73 l0 a1_1).f0, (rd_T73 l0 a1_1).f1, (rd_T73 l0 a1_1).f2⟩ : S73), (⟨(rd_T73 l0 a1_2).f0, (rd_T73 l0 a1_2).f1, (rd_T73 l0 a1_2).f2⟩ : S73)] : List (S73))) (inner := [.int .i64 ((rd_T73 l0 a1_0).f0), .int .i64 ((rd_T73 l0 a1_0).f1), .int .i64 ((rd_T73 l0 a1_0).f2), .int .i64 ((rd_T73 l0 a1_1).f0), .int .i64 ((rd_T73 l0 a1_1).f1), .int .i64 ((rd_T73 l0 a1_1).f2), .int .i64 ((rd_T73 l0 a1_2).f0), .int .i64 ((rd_T73 l0 a1_2).f1), .int .i64 ((rd_T73 l0 a1_2).f2)]) (ok := fun _ => True) (okp := fun _ => True) ?hr ?hp (fun _ hk => hk) trivial (Below.refl _ _) (Nat.le_refl _) (by simp) ?_; (case hd => rfl); (case hg => rfl); (case hr => first | (go_simp; done) | (go_simp; rfl)); (case hp => exact (Reps.c3 (show Kd.M k73 _ _ _ (⟨(rd_T73 l0 a1_0).f0, (rd_T73 l0 a1_0).f1, (rd_T73 l0 a1_0).f2⟩ : S73) [.int .i64 ((rd_T73 l0 a1_0).f0), .int .i64 ((rd_T73 l0 a1_0).f1), .int .i64 ((rd_T73 l0 a1_0).f2)] from (k73_mkM _ _ _ (⟨(rd_T73 l0 a1_0).f0, (rd_T73 l0 a1_0).f1, (rd_T73 l0 a1_0).f2⟩ : S73) )) (Reps.c3 (show Kd.M k73 _ _ _ (⟨(rd_T73 l0 a1_1).f0, (rd_T73 l0 a1_1).f1, (rd_T73 l0 a1_1).f2⟩ : S73) [.int .i64 ((rd_T73 l0 a1_1).f0), .int .i64 ((rd_T73 l0 a1_1).f1), .int .i64 ((rd_T73 l0 a1_1).f2)] from (k73_mkM _ _ _ (⟨(rd_T73 l0 a1_1).f0, (rd_T73 l0 a1_1).f1, (rd_T73 l0 a1_1).f2⟩ : S73) )) (Reps.c3 (show Kd.M k73 _ _ _ (⟨(rd_T73 l0 a1_2).f0, (rd_T73 l0 a1_2).f1, (rd_T73 l0 a1_2).f2⟩ : S73) [.int .i64 ((rd_T73 l0 a1_2).f0), .int .i64 ((rd_T73 l0 a1_2).f1), .int .i64 ((rd_T73 l0 a1_2).f2)] from (k73_mkM _ _ _ (⟨(rd_T73 l0 a1_2).f0, (rd_T73 l0 a1_2).f1, (rd_T73 l0 a1_2).f2⟩ : S73) )) (Reps.none _ _)))))
 intro v106 w12 ho13 hb hg_ hnew_
 clear hg_ hnew_
 (first | rw [← Ny105.out] at ho13 | (simp only [Int.reduceToNat] at ho13; rw [← Ny105.out] at ho13))
 have n0_ := A_ (Kd.R_lower ho13 (below_size (bW1 HB.out GE101.out))); have n1_ := A_ (bkB BK101 hb); have n2_ := A_ (below_step (bW1 HB.out GE101.out) hb); clear BK101 HB; have HO107 := n0_; have BK101 := n1_; have HB := n2_; clear n0_ n1_ n2_ hb ho13; obtain ⟨Ao14, co14, eo14⟩ := Kd.R_slice HO107.out
 (first | subst eo14 | (injection eo14 with f1_ f2_ f3_; have f4_ := f1_.symm; have f5_ := f3_.symm; clear f1_ f2_ f3_; subst f4_; subst f5_))
 refine hK.out _ _ ⟨(blk_cell BK101.out 0).trans rfl, (blk_cell BK101.out 1).trans rfl, (blk_cell BK101.out 2).trans rfl, (pw_cell_below HB.out hw102_0), (pw_cell_below HB.out hw102_1), (pw_cell_below HB.out hw102_2), (pw_cell_below HB.out hw103_0), (pw_cell_below HB.out hw103_1), (pw_cell_below HB.out hw103_2), (pw_cell_below HB.out hw104_0), (pw_cell_below HB.out hw104_1), (pw_cell_below HB.out hw104_2)⟩ (fun hHeld => ?_)
 clear hK K
 refine norm_ (a' := ?_) ?_ ?_
 rotate_left
 ·show Act.put _ (some 20) _ = _
  simp only [Act.put, List.setIfInBounds_toArray, List.set_cons_zero, List.set_cons_succ, i64_w, i32_w]
  rfl
 refine one_ (i := 16) (N := some 21) (mkB 19 131071) rfl rfl (one_of HT_.out (by kernel_rfl)) (by decide) (fun K hK => ?_)
 refine goes_ Try.func58 (by kernel_rfl) rfl #[.slice Ao14 y105.length co14] (by rfl) rfl rfl (by (try simp only [List.map_toArray, List.map_cons, List.map_nil]); first | done | rfl | (simp only [List.length_drop, List.length_take]; rfl)) ?_
 with_reducible refine (arm_can.calls k _ _ y105 t108 _ ?side1 ?side2 A9.out).mono ?_
 (case side1 => exact cU (Kd.R_reads' HO107.out).2.2)
 (case side2 => exact (Kd.R_reads' HO107.out).2.1)
 rintro e w15 ⟨rfl, hb⟩
 refine ⟨_, rfl, ?_⟩
 have n0_ := A_ (Kd.R_below (rU HO107.out) hb); have n1_ := A_ (bkB BK101 hb); have n2_ := A_ (below_step (bW1 HB.out GE101.out) hb); clear HO107 BK101 HB; have HO107 := n0_; have BK101 := n1_; have HB := n2_; clear n0_ n1_ n2_
 (try clear hb)
 (try clear hb2)
 (try clear hk)
 (try clear hi)
 refine hK.out _ _ ⟨(blk_cell BK101.out 0).trans rfl, (blk_cell BK101.out 1).trans rfl, (blk_cell BK101.out 2).trans rfl, (pw_cell_below HB.out hw102_0), (pw_cell_below HB.out hw102_1), (pw_cell_below HB.out hw102_2), (pw_cell_below HB.out hw103_0), (pw_cell_below HB.out hw103_1), (pw_cell_below HB.out hw103_2), (pw_cell_below HB.out hw104_0), (pw_cell_below HB.out hw104_1), (pw_cell_below HB.out hw104_2)⟩ (fun hHeld => ?_)
 clear hK K
 refine norm_ (a' := ?_) ?_ ?_
 rotate_left
 ·show Act.put _ (some 21) _ = _
  simp only [Act.put, List.setIfInBounds_toArray, List.set_cons_zero, List.set_cons_succ, i64_w, i32_w]
  rfl
 refine pr_ 17 (some 22) (mkB 19 262143) HT_ ?_; refine pr_ 18 (some 4) (mkB 19 524287) HT_ ?_
 refine done_ (done_of HT_.out (by kernel_rfl)) ?_
 try go_wp2
 go_ret
 exact ⟨eQ, by repeat (first | (with_reducible first | exact HB.out | apply below_alloc | apply pw_below_drewN | apply below_drew1 | refine below_set ?_ GE101.out) | exact HB.out)⟩
end Go.Proofs.Ytiapmkndgalgnaa.G
