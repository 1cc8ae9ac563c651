/- Functions of the seat and plain laws about them: GF96, GF97, GF88, GF76, GF89. -/
import Derived.Test.YthbpibdfookbmaaGBase
section
namespace Go.Proofs.Ythbpibdfookbmaa.G
open Go.RowKit Go.Proofs.YthbpibdfookbmaaW.PrintWords Go.Proofs.YthbpibdfookbmaaW.PrintLast Go.Proofs.YthbpibdfookbmaaW.PrintMore
attribute [local go_sem] max2_int min2_int max_two min_two max_three min_three max_four min_four
set_option linter.unusedVariables false
set_option linter.unusedSimpArgs false
mutual
def slices_insertionSortCmpFunc_int.l0 : Nat → List Int → Int → Int → (Int → Int → Option (Int)) → Int → Option (List Int)
 | 0, _, _, _, _, _ => none
 | k + 1, x0, x1, x2, x3, x8 => if x8 < x2 then (slices_insertionSortCmpFunc_int.l1 k x0 x1 x2 x3 x8 x8) else (some x0)
def slices_insertionSortCmpFunc_int.l1 : Nat → List Int → Int → Int → (Int → Int → Option (Int)) → Int → Int → Option (List Int)
 | 0, _, _, _, _, _, _ => none
 | k + 1, x0, x1, x2, x3, x8, x9 => if x9 > x1 then (if 0 ≤ x9 then (if x9 < (x0.length : Int) then (if 0 ≤ (wrap64 (x9 - 1)) then (if (wrap64 (x9 - 1)) < (x0.length : Int) then ((x3 (rd x0 x9) (rd x0 (wrap64 (x9 - 1)))).bind fun t103 => (if t103 < 0 then (slices_insertionSortCmpFunc_int.l1 k ((x0.set (x9 : Int).toNat (rd x0 (wrap64 (x9 - 1)))).set ((wrap64 (x9 - 1)) : Int).toNat (rd x0 x9)) x1 x2 x3 x8 (wrap64 (x9 - 1))) else (slices_insertionSortCmpFunc_int.l0 k x0 x1 x2 x3 (wrap64 (x8 + 1))))) else (none)) else (none)) else (none)) else (none)) else (slices_insertionSortCmpFunc_int.l0 k x0 x1 x2 x3 (wrap64 (x8 + 1)))
end
def slices_insertionSortCmpFunc_int.f (k : Nat) (l0 : List Int) (a1 : Int) (a2 : Int) (a3 : (Int → Int → Option (Int))) : Option (List Int) := slices_insertionSortCmpFunc_int.l0 k l0 a1 a2 a3 (wrap64 (a1 + 1))
theorem slices_insertionSortCmpFunc_int.mono_l : ∀ k, (∀ y0 y1 y2 y3 y4, LeO (slices_insertionSortCmpFunc_int.l0 k y0 y1 y2 y3 y4) (slices_insertionSortCmpFunc_int.l0 (k + 1) y0 y1 y2 y3 y4)) ∧ (∀ y0 y1 y2 y3 y4 y5, LeO (slices_insertionSortCmpFunc_int.l1 k y0 y1 y2 y3 y4 y5) (slices_insertionSortCmpFunc_int.l1 (k + 1) y0 y1 y2 y3 y4 y5))
 | 0 => ⟨fun _ _ _ _ _ r h => by simp [slices_insertionSortCmpFunc_int.l0] at h, fun _ _ _ _ _ _ r h => by simp [slices_insertionSortCmpFunc_int.l1] at h⟩
 | k + 1 => by
  obtain ⟨ih0, ih1⟩ := slices_insertionSortCmpFunc_int.mono_l k
  refine ⟨?_, ?_⟩
  ·intro y0 y1 y2 y3 y4
   unfold slices_insertionSortCmpFunc_int.l0
   repeat' first
   | (with_reducible exact ih0 _ _ _ _ _)
   | (with_reducible exact ih1 _ _ _ _ _ _)
   | (with_reducible exact LeO.refl _)
   | (with_reducible exact LeO.none _)
   | (with_reducible refine LeO.ite ?_ ?_)
   | (with_reducible refine LeO.bind ?_ (fun _ => ?_))
   | exact ih0 _ _ _ _ _
   | exact ih1 _ _ _ _ _ _
   | exact LeO.none _
   | refine LeO.ite ?_ ?_
   | refine LeO.bind ?_ (fun _ => ?_)
  ·intro y0 y1 y2 y3 y4 y5
   unfold slices_insertionSortCmpFunc_int.l1
   repeat' first
   | (with_reducible exact ih0 _ _ _ _ _)
   | (with_reducible exact ih1 _ _ _ _ _ _)
   | (with_reducible exact LeO.refl _)
   | (with_reducible exact LeO.none _)
   | (with_reducible refine LeO.ite ?_ ?_)
   | (with_reducible refine LeO.bind ?_ (fun _ => ?_))
   | exact ih0 _ _ _ _ _
   | exact ih1 _ _ _ _ _ _
   | exact LeO.none _
   | refine LeO.ite ?_ ?_
   | refine LeO.bind ?_ (fun _ => ?_)
theorem slices_insertionSortCmpFunc_int.mono : ∀ a0 a1 a2 a3 k, LeO (slices_insertionSortCmpFunc_int.f k a0 a1 a2 a3) (slices_insertionSortCmpFunc_int.f (k + 1) a0 a1 a2 a3) := by
 intro a0 a1 a2 a3 k
 obtain ⟨ih0, ih1⟩ := slices_insertionSortCmpFunc_int.mono_l k
 unfold slices_insertionSortCmpFunc_int.f
 repeat' first
   | (with_reducible exact ih0 _ _ _ _ _)
   | (with_reducible exact ih1 _ _ _ _ _ _)
   | (with_reducible exact LeO.refl _)
   | (with_reducible exact LeO.none _)
   | (with_reducible refine LeO.ite ?_ ?_)
   | (with_reducible refine LeO.bind ?_ (fun _ => ?_))
   | exact ih0 _ _ _ _ _
   | exact ih1 _ _ _ _ _ _
   | exact LeO.none _
   | refine LeO.ite ?_ ?_
   | refine LeO.bind ?_ (fun _ => ?_)
def slices_insertionSortCmpFunc_int.T4 : Bool × List (List Nat × List Nat) := (true, [([], []), ([], []), ([0, 1], [0, 1]), ([2], [2]), ([3], [3]), ([3], [3]), ([3], [3]), ([5, 6, 3], [3, 5, 6]), ([7, 3], [3, 7]), ([3], [3]), ([3], [3]), ([10, 3], [3, 10]), ([9, 11, 3], [3, 9, 11]), ([12, 3], [3, 12]), ([4, 8, 13, 3, 3], [3, 4, 8, 13]), ([14, 3], [3, 14]), ([3, 15], [3, 15])])
def slices_insertionSortCmpFunc_int.B4 : List Nat := [0, 0, 3, 7, 15, 15, 15, 111, 239, 15, 15, 1039, 3599, 7695, 16383, 32767, 65535]
theorem slices_insertionSortCmpFunc_int.tab4 : rtab .any (opsOf Try.f96 4) = slices_insertionSortCmpFunc_int.T4 := by kernel_rfl
theorem slices_insertionSortCmpFunc_int.bits4 : waitsOk slices_insertionSortCmpFunc_int.T4.2 slices_insertionSortCmpFunc_int.B4 = true := by kernel_rfl
def slices_insertionSortCmpFunc_int.T6 : Bool × List (List Nat × List Nat) := (true, [([], []), ([], []), ([], []), ([], []), ([3], [3]), ([], []), ([], []), ([6], [6]), ([5, 7], [5, 7]), ([8], [8]), ([], []), ([], []), ([10, 11], [10, 11]), ([12], [12]), ([0, 1, 0, 1, 5, 6, 7, 8, 9, 13], [0, 1]), ([14, 9, 0, 1, 5, 6, 7, 8, 9, 13], [9, 14]), ([2, 4, 0, 1, 2, 3, 4, 5, 6, 7, 8, 9, 10, 11, 12, 13, 14, 15], [2, 4]), ([16, 13, 15, 0, 1, 2, 3, 4, 5, 6, 7, 8, 9, 10, 11, 12, 13, 14, 15], [13, 16])])
def slices_insertionSortCmpFunc_int.B6 : List Nat := [0, 0, 0, 0, 8, 0, 0, 64, 224, 480, 0, 0, 3072, 7168, 16355, 32739, 65535, 131071]
theorem slices_insertionSortCmpFunc_int.tab6 : rtab .any (opsOf Try.f96 6) = slices_insertionSortCmpFunc_int.T6 := by kernel_rfl
theorem slices_insertionSortCmpFunc_int.bits6 : waitsOk slices_insertionSortCmpFunc_int.T6.2 slices_insertionSortCmpFunc_int.B6 = true := by kernel_rfl
set_option maxHeartbeats 8000000 in
set_option maxRecDepth 100000 in
theorem slices_insertionSortCmpFunc_int.calls (k : Nat) (P0_ : Nat → Prop) (u9000_ : Value) (l0 : List Int) (a1 : Int) (a2 : Int) {g3 : FuncId} {lb3 : Array Value} (hen3 : EntersF Try.prog g3) (a3 : (Int → Int → Option (Int))) (r : List Int) (w0 w : World) (hB : Below w0.heap.size w0 w) (ho0 : Kd.R (Kd.int .i64) 3 w w0.heap.size P0_ u9000_ l0) (hfn3 : ∀ (z0_ : Int) (z1_ : Int) (q0_ : Int) (W_ : World), Below w0.heap.size w0 W_ → a3 z0_ z1_ = some q0_ → Calls Try.prog g3 (#[.int .i64 z0_, .int .i64 z1_] ++ lb3) W_ fun e w' => e = .returned (.int .i64 q0_) ∧ Below W_.heap.size W_ w') (h : slices_insertionSortCmpFunc_int.f k l0 a1 a2 a3 = some r) :
  Calls Try.prog 96 #[u9000_, .int .i64 a1, .int .i64 a2, .func (.func g3) #[] lb3] w fun e w' => e = .returned (.tuple #[]) ∧ Kd.R (Kd.int .i64) 3 w' w0.heap.size (fun k_ => (P0_ k_ ∨ w.heap.size ≤ k_)) u9000_ r ∧ Below w0.heap.size w0 w' ∧ Kept w w' (fun k_ => P0_ k_) := by
 have HO0 := A_ (show Kd.R (Kd.int .i64) 3 w w0.heap.size (fun k_ => (P0_ k_ ∨ w.heap.size ≤ k_)) u9000_ l0 from Kd.R_mono ho0 (fun k_ hk => (.inl hk)))
 have HFN3 := A_ hfn3; have HEN3 := A_ hen3; clear hfn3 hen3
 have HK := A_ (Kept.refl w (fun k_ => P0_ k_))
 have HW0 := A_ hB.size; have HB := A_ hB; clear hB; have H : (slices_insertionSortCmpFunc_int.l0 k l0 a1 a2 a3 (wrap64 (a1 + 1))) = some r := h; clear h; have H' := A_ H; clear H
 go_enter Try.func96, Try.ntmps96
 go_wp2
 go_loopg [8] k (fun kq v8 w' => ∃ (x0_1 : List Int) (x8_1 : Int), v8 = .int .i64 x8_1 ∧ Aside0 (slices_insertionSortCmpFunc_int.l0 kq x0_1 a1 a2 a3 x8_1 = some r) ∧ Aside0 (kq ≤ k) ∧ Aside0 (Kd.R (Kd.int .i64) 3 w' w0.heap.size (fun k_ => (P0_ k_ ∨ w.heap.size ≤ k_)) u9000_ x0_1) ∧ Aside0 (Kept w w' (fun k_ => P0_ k_)) ∧ Aside0 (Below w0.heap.size w0 w'))
 case atStart => exact ⟨(l0), (wrap64 (a1 + 1)), eS, H', ⟨Nat.le_refl _⟩, ⟨rU HO0.out⟩, ⟨by repeat (first | (with_reducible first | exact HK.out | apply Kept.alloc | apply Kept.drewN | apply Kept.drew) | exact HK.out)⟩, ⟨by repeat (first | (with_reducible first | exact HB.out | apply below_alloc | apply pw_below_drewN | apply below_drew1) | exact HB.out)⟩⟩
 case round =>
  clear H'
  try clear p2
  obtain ⟨x0_1, x8_1, rfl, HA, HK1, HO_0, HK, HB⟩ := hrel
  cases gk with
  | zero => exact absurd HA.out (by simp [slices_insertionSortCmpFunc_int.l0])
  | succ k1 =>
   have H := HA.out; clear HA; simp only [slices_insertionSortCmpFunc_int.l0] at H; by_cases c5 : x8_1 < a2; rotate_left
   ·rw [if_neg c5] at H
    have c5b0 : decide (x8_1 < a2) = false := decide_eq_false c5; clear c5; obtain rfl := Option.some.inj H
    go_wp2
    first | go_end0 | ((try simp only [Exit.inBlock, Exit.then]); refine bodyPost_ret (results_none rfl _ _ _) rfl ?_)
    exact ⟨eQ, by (with_reducible repeat (first | apply Kd.R_alloc | apply Kd.R_drewN | apply Kd.R_drew)); exact HO_0.out, by repeat (first | (with_reducible first | exact HB.out | apply below_alloc | apply pw_below_drewN | apply below_drew1) | exact HB.out), by repeat (first | (with_reducible first | exact HK.out | apply Kept.alloc | apply Kept.drewN | apply Kept.drew) | exact HK.out)⟩
   rw [if_pos c5] at H; have c5b0 : decide (x8_1 < a2) = true := decide_eq_true c5; clear c5; have H' := A_ H; clear H
   go_wp2
   go_loopg [9] k1 (fun kq v9 w' => ∃ (x0_2 : List Int) (x9_2 : Int), v9 = .int .i64 x9_2 ∧ Aside0 (slices_insertionSortCmpFunc_int.l1 kq x0_2 a1 a2 a3 x8_1 x9_2 = some r) ∧ Aside0 (kq ≤ k1) ∧ Aside0 (Kd.R (Kd.int .i64) 3 w' w0.heap.size (fun k_ => (P0_ k_ ∨ w.heap.size ≤ k_)) u9000_ x0_2) ∧ Aside0 (Kept w w' (fun k_ => P0_ k_)) ∧ Aside0 (Below w0.heap.size w0 w'))
   case atStart => exact ⟨(x0_1), (x8_1), eS, H', ⟨Nat.le_refl _⟩, ⟨rU HO_0.out⟩, ⟨by repeat (first | (with_reducible first | exact HK.out | apply Kept.alloc | apply Kept.drewN | apply Kept.drew) | exact HK.out)⟩, ⟨by repeat (first | (with_reducible first | exact HB.out | apply below_alloc | apply pw_below_drewN | apply below_drew1) | exact HB.out)⟩⟩
   case round =>
    clear H'
    try clear p2; try clear c5; try clear c5b0; try clear p2
    obtain ⟨x0_2, x9_2, rfl, HA, HK2, HO_0, HK, HB⟩ := hrel
    cases gk with
    | zero => exact absurd HA.out (by simp [slices_insertionSortCmpFunc_int.l1])
    | succ k2 =>
     have H := HA.out; clear HA; simp only [slices_insertionSortCmpFunc_int.l1] at H; by_cases c6 : x9_2 > a1; rotate_left
     ·rw [if_neg c6] at H
      have c6b0 : decide (a1 < x9_2) = false := decide_eq_false c6; clear c6; have H' := A_ H; clear H
      try go_wp2
      have n0_ := A_ (Kd.R_drew HO_0.out); have n1_ := A_ (Kept.drew HK.out); have n2_ := A_ (below_drew1 HB.out); clear HO_0 HK HB; have HO_0 := n0_; have HK := n1_; have HB := n2_; clear n0_ n1_ n2_
      refine start_ (n := 17) (S := fun w' => True) (ds := []) (mkB 17 0) (by kernel_rfl) rfl rfl trivial (fun hHeld => ?_); refine with_tabW slices_insertionSortCmpFunc_int.tab4 slices_insertionSortCmpFunc_int.bits4 (fun HT_ HW_ => ?_)
      generalize wr.drew = w25 at HO_0 HK HB hHeld ⊢; refine pr_ 0 (some 18) (mkB 17 1) HT_ ?_; refine pr_ 1 (some 19) (mkB 17 3) HT_ ?_; refine pr_ 2 (some 20) (mkB 17 7) HT_ ?_; refine pr_ 3 (some 21) (mkB 17 15) HT_ ?_; refine pu_ 4 (some 22) (mkB 17 31) HT_ ?_; refine pu_ 5 (some 23) (mkB 17 63) HT_ ?_; refine pu_ 6 (some 24) (mkB 17 127) HT_ ?_; refine pu_ 7 (some 25) (mkB 17 255) HT_ ?_; refine pu_ 8 (some 26) (mkB 17 511) HT_ ?_; refine pu_ 9 (some 27) (mkB 17 1023) HT_ ?_; refine pu_ 10 (some 28) (mkB 17 2047) HT_ ?_; refine pu_ 11 (some 29) (mkB 17 4095) HT_ ?_; refine pu_ 12 (some 30) (mkB 17 8191) HT_ ?_; refine pu_ 13 (some 31) (mkB 17 16383) HT_ ?_; refine pu_ 14 (some 32) (mkB 17 32767) HT_ ?_; refine pu_ 15 (some 33) (mkB 17 65535) HT_ ?_; refine pr_ 16 (some 34) (mkB 17 131071) HT_ ?_
      refine done_ (done_of HT_.out (by kernel_rfl)) ?_
      try go_wp2
      go_roundg k2
      case measure => have := HK1.out; have := HK2.out; omega
      case rel => exact ⟨(x0_2), (wrap64 (x8_1 + 1)), eS, H', ⟨by have := HK1.out; have := HK2.out; omega⟩, ⟨rU HO_0.out⟩, ⟨by repeat (first | (with_reducible first | exact HK.out | apply Kept.alloc | apply Kept.drewN | apply Kept.drew) | exact HK.out)⟩, ⟨by repeat (first | (with_reducible first | exact HB.out | apply below_alloc | apply pw_below_drewN | apply below_drew1) | exact HB.out)⟩⟩
     rw [if_pos c6] at H; have c6b0 : decide (a1 < x9_2) = true := decide_eq_true c6; clear c6; by_cases c7 : 0 ≤ x9_2; rotate_left
     ·rw [if_neg c7] at H
      exact absurd H (by simp)
     rw [if_pos c7] at H; have c7b0 : decide (0 ≤ x9_2) = true := decide_eq_true c7; clear c7; by_cases c8 : x9_2 < (x0_2.length : Int); rotate_left
     ·rw [if_neg c8] at H
      exact absurd H (by simp)
     rw [if_pos c8] at H; have c8b0 : decide (x9_2 < (x0_2.length : Int)) = true := decide_eq_true c8; clear c8; obtain ⟨ji9, hji9⟩ : ∃ j_ : Int, (wrap64 (x9_2 - 1)) = j_ := ⟨_, rfl⟩
     replace H : (if 0 ≤ (ji9) then (if (ji9) < (x0_2.length : Int) then ((a3 (rd x0_2 x9_2) (rd x0_2 (ji9))).bind fun t103 => (if t103 < 0 then (slices_insertionSortCmpFunc_int.l1 k2 ((x0_2.set (x9_2 : Int).toNat (rd x0_2 (ji9))).set ((ji9) : Int).toNat (rd x0_2 x9_2)) a1 a2 a3 x8_1 ji9) else (slices_insertionSortCmpFunc_int.l0 k2 x0_2 a1 a2 a3 (wrap64 (x8_1 + 1))))) else (none)) else (none)) = some r := by first | (rw [hji9] at H; exact H) | (simp only [hji9] at H ⊢; exact H)
     have hji9w : (IntKind.i64.wrap (x9_2 - 1)) = ji9 := (i64_w _).trans hji9; by_cases c10 : 0 ≤ (ji9); rotate_left
     ·rw [if_neg c10] at H
      exact absurd H (by simp)
     rw [if_pos c10] at H; have c10b0 : decide (0 ≤ (ji9)) = true := decide_eq_true c10; clear c10; by_cases c11 : (ji9) < (x0_2.length : Int); rotate_left
     ·rw [if_neg c11] at H
      exact absurd H (by simp)
     rw [if_pos c11] at H; have c11b0 : decide ((ji9) < (x0_2.length : Int)) = true := decide_eq_true c11; clear c11; replace H := Option.bind_eq_some_iff.mp H; obtain ⟨t103, A120, H⟩ := H; (try dsimp only at H); have A12 := A_ A120; clear A120; by_cases c13 : t103 < 0; rotate_left
     ·rw [if_neg c13] at H
      have c13b0 : decide (t103 < 0) = false := decide_eq_false c13; clear c13; have H' := A_ H; clear H
      try go_wp2
      have n0_ := A_ (Kd.R_drew HO_0.out); have n1_ := A_ (Kept.drew HK.out); have n2_ := A_ (below_drew1 HB.out); clear HO_0 HK HB; have HO_0 := n0_; have HK := n1_; have HB := n2_; clear n0_ n1_ n2_; obtain ⟨Ao23, co23, eo23⟩ := Kd.R_slice HO_0.out
      (first | subst eo23 | (injection eo23 with f1_ f2_ f3_; have f4_ := f1_.symm; have f5_ := f3_.symm; clear f1_ f2_ f3_; subst f4_; subst f5_))
      have p101 : 0 ≤ (x9_2 : Int) := oD; have q101 : x9_2 < (x0_2.length : Int) := oD; obtain ⟨ad101, e101, hx101_0⟩ := Kd.at_int (Kd.R_reads' HO_0.out).2.2 x9_2 p101 q101
      cases e101
      replace p101 := eq_true p101; replace q101 := eq_true q101; have p102 : 0 ≤ ((ji9) : Int) := oD; have q102 : (ji9) < (x0_2.length : Int) := oD; obtain ⟨ad102, e102, hx102_0⟩ := Kd.at_int (Kd.R_reads' HO_0.out).2.2 (ji9) p102 q102
      obtain rfl : ad101 = ad102 := (by injection e102)
      replace p102 := eq_true p102; replace q102 := eq_true q102
      refine start_ (n := 17) (S := fun w' => w'.cell? (ad101.add (x9_2).toNat) = some (.int .i64 (rd x0_2 x9_2)) ∧ w'.cell? (ad101.add ((ji9)).toNat) = some (.int .i64 (rd x0_2 (ji9)))) (ds := []) (mkB 17 0) (by kernel_rfl) rfl rfl ⟨hx101_0, hx102_0⟩ (fun hHeld => ?_); refine with_tabW slices_insertionSortCmpFunc_int.tab4 slices_insertionSortCmpFunc_int.bits4 (fun HT_ HW_ => ?_)
      generalize wr.drew = w22 at HO_0 HK HB hx101_0 hx102_0 hHeld ⊢; refine pr_ 0 (some 18) (mkB 17 1) HT_ ?_; refine pr_ 1 (some 19) (mkB 17 3) HT_ ?_; refine pr_ 2 (some 20) (mkB 17 7) HT_ ?_; refine pr_ 3 (some 21) (mkB 17 15) HT_ ?_; refine pr_ 4 (some 22) (mkB 17 31) HT_ ?_; refine pr_ 5 (some 23) (mkB 17 63) HT_ ?_; refine pr_ 6 (some 24) (mkB 17 127) HT_ ?_; refine pr_ 7 (some 25) (mkB 17 255) HT_ ?_; refine pr_ 9 (some 27) (mkB 17 767) HT_ ?_; refine pr_ 10 (some 28) (mkB 17 1791) HT_ ?_; refine pr_ 11 (some 29) (mkB 17 3839) HT_ ?_; refine pr_ 12 (some 30) (mkB 17 7935) HT_ ?_
      refine take_ (i := 8) (N := some 26) (v := ?_) (a' := ?_) (mkB 17 8191) rfl rfl (take_ofW HT_.out HW_.out (by kernel_rfl)) (fun _ _ _ h => h) (Or.inl ⟨by rfl, ?_⟩) hHeld ?_ ?_
      rotate_left
      ·rintro w' ⟨s0, s1⟩
       go_simp
       with_reducible rfl
      rotate_left
      ·simp only [Act.put, List.setIfInBounds_toArray, List.set_cons_zero, List.set_cons_succ, i64_w, i32_w]
       rfl
      refine take_ (i := 13) (N := some 31) (v := ?_) (a' := ?_) (mkB 17 16383) rfl rfl (take_ofW HT_.out HW_.out (by kernel_rfl)) (fun _ _ _ h => h) (Or.inl ⟨by rfl, ?_⟩) hHeld ?_ ?_
      rotate_left
      ·rintro w' ⟨s0, s1⟩
       go_simp
       with_reducible rfl
      rotate_left
      ·simp only [Act.put, List.setIfInBounds_toArray, List.set_cons_zero, List.set_cons_succ, i64_w, i32_w]
       rfl
      refine one_ (i := 14) (N := some 32) (mkB 17 32767) rfl rfl (one_of HT_.out (by kernel_rfl)) (by decide) (fun K hK => ?_)
      refine goesV_ HEN3.out (lb := lb3) #[.int .i64 (rd x0_2 x9_2), .int .i64 (rd x0_2 (ji9))] (by rfl) rfl rfl rfl (by (try simp only [List.map_toArray, List.map_cons, List.map_nil]); first | done | (simp only [hji9]; rfl) | rfl | (simp only [List.length_drop, List.length_take]; rfl)) ?_
      with_reducible refine (HFN3.out (rd x0_2 x9_2) (rd x0_2 (ji9)) t103 _ (bW0 HB.out) A12.out).mono ?_
      rintro e w24 ⟨rfl, hb⟩
      have HS0_ := (hb.cell (World.block_lt_of_cell? _ _ (hHeld.1))).trans (hHeld.1); have HS1_ := (hb.cell (World.block_lt_of_cell? _ _ (hHeld.2))).trans (hHeld.2)
      refine ⟨_, rfl, ?_⟩
      have n0_ := A_ (Kd.R_below (rU HO_0.out) hb)
      have n1_ := A_ (Kept.below (S := (fun k_ => P0_ k_)) (by repeat (first | (with_reducible first | exact HK.out | apply Kept.alloc | apply Kept.drewN | apply Kept.drew) | exact HK.out)) hb)
      have n2_ := A_ (below_step (bW0 HB.out) hb); clear HO_0 HK HB; have HO_0 := n0_; have HK := n1_; have HB := n2_; clear n0_ n1_ n2_
      (try clear hb)
      (try clear hb2)
      (try clear hk)
      (try clear hi)
      refine hK.out _ _ ⟨HS0_, HS1_⟩ (fun hHeld => ?_)
      clear hK K
      refine norm_ (a' := ?_) ?_ ?_
      rotate_left
      ·show Act.put _ (some 32) _ = _
       simp only [Act.put, List.setIfInBounds_toArray, List.set_cons_zero, List.set_cons_succ, i64_w, i32_w]
       rfl
      refine pr_ 15 (some 33) (mkB 17 65535) HT_ ?_; refine pr_ 16 (some 34) (mkB 17 131071) HT_ ?_
      refine done_ (done_of HT_.out (by kernel_rfl)) ?_
      try go_wp2
      go_roundg k2
      case measure => have := HK1.out; have := HK2.out; omega
      case rel => exact ⟨(x0_2), (wrap64 (x8_1 + 1)), eS, H', ⟨by have := HK1.out; have := HK2.out; omega⟩, ⟨rU HO_0.out⟩, ⟨by repeat (first | (with_reducible first | exact HK.out | apply Kept.alloc | apply Kept.drewN | apply Kept.drew) | exact HK.out)⟩, ⟨by repeat (first | (with_reducible first | exact HB.out | apply below_alloc | apply pw_below_drewN | apply below_drew1) | exact HB.out)⟩⟩
     rw [if_pos c13] at H; have c13b0 : decide (t103 < 0) = true := decide_eq_true c13; clear c13; obtain ⟨y106, hy106⟩ : ∃ y_ : List Int, y_ = (x0_2.set (x9_2 : Int).toNat (rd x0_2 (ji9))) := ⟨_, rfl⟩
     replace H : (slices_insertionSortCmpFunc_int.l1 k2 (y106.set ((ji9) : Int).toNat (rd x0_2 x9_2)) a1 a2 a3 x8_1 ji9) = some r := by first | (rw [hy106]; with_reducible exact H) | (have H2_ := (Option.bind_some _ _).symm.trans H; rw [hy106]; with_reducible exact H2_) | (have H2_ := (Option.bind_some _ _).symm.trans H; with_reducible exact H2_) | with_reducible exact H | (rw [hy106]; exact H) | exact H
     have Ny106 := A_ hy106; clear hy106; obtain ⟨y107, hy107⟩ : ∃ y_ : List Int, y_ = (y106.set ((ji9) : Int).toNat (rd x0_2 x9_2)) := ⟨_, rfl⟩
     replace H : (slices_insertionSortCmpFunc_int.l1 k2 y107 a1 a2 a3 x8_1 ji9) = some r := by first | (rw [hy107]; with_reducible exact H) | (have H2_ := (Option.bind_some _ _).symm.trans H; rw [hy107]; with_reducible exact H2_) | (have H2_ := (Option.bind_some _ _).symm.trans H; with_reducible exact H2_) | with_reducible exact H | (rw [hy107]; exact H) | exact H
     have Ny107 := A_ hy107; clear hy107; have H' := A_ H; clear H
     try go_wp2
     have n0_ := A_ (Kd.R_drew HO_0.out); have n1_ := A_ (Kept.drew HK.out); have n2_ := A_ (below_drew1 HB.out); clear HO_0 HK HB; have HO_0 := n0_; have HK := n1_; have HB := n2_; clear n0_ n1_ n2_; obtain ⟨Ao17, co17, eo17⟩ := Kd.R_slice HO_0.out
     (first | subst eo17 | (injection eo17 with f1_ f2_ f3_; have f4_ := f1_.symm; have f5_ := f3_.symm; clear f1_ f2_ f3_; subst f4_; subst f5_))
     have p101 : 0 ≤ (x9_2 : Int) := oD; have q101 : x9_2 < (x0_2.length : Int) := oD; obtain ⟨ad101, e101, hx101_0⟩ := Kd.at_int (Kd.R_reads' HO_0.out).2.2 x9_2 p101 q101
     cases e101
     replace p101 := eq_true p101; replace q101 := eq_true q101; have p102 : 0 ≤ ((ji9) : Int) := oD; have q102 : (ji9) < (x0_2.length : Int) := oD; obtain ⟨ad102, e102, hx102_0⟩ := Kd.at_int (Kd.R_reads' HO_0.out).2.2 (ji9) p102 q102
     obtain rfl : ad101 = ad102 := (by injection e102)
     replace p102 := eq_true p102; replace q102 := eq_true q102
     refine start_ (n := 17) (S := fun w' => w'.cell? (ad101.add (x9_2).toNat) = some (.int .i64 (rd x0_2 x9_2)) ∧ w'.cell? (ad101.add ((ji9)).toNat) = some (.int .i64 (rd x0_2 (ji9)))) (ds := []) (mkB 17 0) (by kernel_rfl) rfl rfl ⟨hx101_0, hx102_0⟩ (fun hHeld => ?_); refine with_tabW slices_insertionSortCmpFunc_int.tab4 slices_insertionSortCmpFunc_int.bits4 (fun HT_ HW_ => ?_)
     generalize wr.drew = w16 at HO_0 HK HB hx101_0 hx102_0 hHeld ⊢; refine pr_ 0 (some 18) (mkB 17 1) HT_ ?_; refine pr_ 1 (some 19) (mkB 17 3) HT_ ?_; refine pr_ 2 (some 20) (mkB 17 7) HT_ ?_; refine pr_ 3 (some 21) (mkB 17 15) HT_ ?_; refine pr_ 4 (some 22) (mkB 17 31) HT_ ?_; refine pr_ 5 (some 23) (mkB 17 63) HT_ ?_; refine pr_ 6 (some 24) (mkB 17 127) HT_ ?_; refine pr_ 7 (some 25) (mkB 17 255) HT_ ?_; refine pr_ 9 (some 27) (mkB 17 767) HT_ ?_; refine pr_ 10 (some 28) (mkB 17 1791) HT_ ?_; refine pr_ 11 (some 29) (mkB 17 3839) HT_ ?_; refine pr_ 12 (some 30) (mkB 17 7935) HT_ ?_
     refine take_ (i := 8) (N := some 26) (v := ?_) (a' := ?_) (mkB 17 8191) rfl rfl (take_ofW HT_.out HW_.out (by kernel_rfl)) (fun _ _ _ h => h) (Or.inl ⟨by rfl, ?_⟩) hHeld ?_ ?_
     rotate_left
     ·rintro w' ⟨s0, s1⟩
      go_simp
      with_reducible rfl
     rotate_left
     ·simp only [Act.put, List.setIfInBounds_toArray, List.set_cons_zero, List.set_cons_succ, i64_w, i32_w]
      rfl
     refine take_ (i := 13) (N := some 31) (v := ?_) (a' := ?_) (mkB 17 16383) rfl rfl (take_ofW HT_.out HW_.out (by kernel_rfl)) (fun _ _ _ h => h) (Or.inl ⟨by rfl, ?_⟩) hHeld ?_ ?_
     rotate_left
     ·rintro w' ⟨s0, s1⟩
      go_simp
      with_reducible rfl
     rotate_left
     ·simp only [Act.put, List.setIfInBounds_toArray, List.set_cons_zero, List.set_cons_succ, i64_w, i32_w]
      rfl
     refine one_ (i := 14) (N := some 32) (mkB 17 32767) rfl rfl (one_of HT_.out (by kernel_rfl)) (by decide) (fun K hK => ?_)
     refine goesV_ HEN3.out (lb := lb3) #[.int .i64 (rd x0_2 x9_2), .int .i64 (rd x0_2 (ji9))] (by rfl) rfl rfl rfl (by (try simp only [List.map_toArray, List.map_cons, List.map_nil]); first | done | (simp only [hji9]; rfl) | rfl | (simp only [List.length_drop, List.length_take]; rfl)) ?_
     with_reducible refine (HFN3.out (rd x0_2 x9_2) (rd x0_2 (ji9)) t103 _ (bW0 HB.out) A12.out).mono ?_
     rintro e w18 ⟨rfl, hb⟩
     have HS0_ := (hb.cell (World.block_lt_of_cell? _ _ (hHeld.1))).trans (hHeld.1); have HS1_ := (hb.cell (World.block_lt_of_cell? _ _ (hHeld.2))).trans (hHeld.2)
     refine ⟨_, rfl, ?_⟩
     have n0_ := A_ (Kd.R_below (rU HO_0.out) hb)
     have n1_ := A_ (Kept.below (S := (fun k_ => P0_ k_)) (by repeat (first | (with_reducible first | exact HK.out | apply Kept.alloc | apply Kept.drewN | apply Kept.drew) | exact HK.out)) hb)
     have n2_ := A_ (below_step (bW0 HB.out) hb); clear HO_0 HK HB; have HO_0 := n0_; have HK := n1_; have HB := n2_; clear n0_ n1_ n2_
     (try clear hb)
     (try clear hb2)
     (try clear hk)
     (try clear hi)
     refine hK.out _ _ ⟨HS0_, HS1_⟩ (fun hHeld => ?_)
     clear hK K
     refine norm_ (a' := ?_) ?_ ?_
     rotate_left
     ·show Act.put _ (some 32) _ = _
      simp only [Act.put, List.setIfInBounds_toArray, List.set_cons_zero, List.set_cons_succ, i64_w, i32_w]
      rfl
     refine pr_ 15 (some 33) (mkB 17 65535) HT_ ?_; refine pr_ 16 (some 34) (mkB 17 131071) HT_ ?_
     refine done_ (done_of HT_.out (by kernel_rfl)) ?_
     try go_wp2
     have n0_ := A_ (Kd.R_drew HO_0.out); have n1_ := A_ (Kept.drew HK.out); have n2_ := A_ (below_drew1 HB.out); clear HO_0 HK HB; have HO_0 := n0_; have HK := n1_; have HB := n2_; clear n0_ n1_ n2_; have p104 : 0 ≤ ((ji9) : Int) := oD; have q104 : (ji9) < (x0_2.length : Int) := oD; obtain ⟨ad104, e104, hx104_0⟩ := Kd.at_int (Kd.R_reads' HO_0.out).2.2 (ji9) p104 q104
     obtain rfl : ad101 = ad104 := (by injection e104)
     replace p104 := eq_true p104; replace q104 := eq_true q104; have p105 : 0 ≤ (x9_2 : Int) := oD; have q105 : x9_2 < (x0_2.length : Int) := oD; obtain ⟨ad105, e105, hx105_0⟩ := Kd.at_int (Kd.R_reads' HO_0.out).2.2 x9_2 p105 q105
     obtain rfl : ad101 = ad105 := (by injection e105)
     replace p105 := eq_true p105; replace q105 := eq_true q105; have p14 : 0 ≤ (x9_2 : Int) := oD; have q14 : (x9_2 : Int) < ((x0_2.length : Int) : Int) := oD
     obtain ⟨go14, co14, eo14, gb14, gl14, cl14, HG14⟩ := Kd.R_form HO_0.out (by omega)
     (first | cases eo14 | (injection eo14 with ea_ en_ ec_; (first | subst ea_ | (injection ea_ with ea_; subst ea_)); subst ec_; clear en_))
     have GB14 := A_ gb14; have GG14 := A_ HG14; clear gb14 gl14 HG14
     have HMgo14 := A_ (show (P0_ go14 ∨ w.heap.size ≤ go14) from (HO_0.out.1 _ rfl))
     (first | simp only [add_plain] at hx101_0 | skip)
     (first | simp only [add_plain] at hx102_0 | skip)
     (first | simp only [add_plain] at hx104_0 | skip)
     (first | simp only [add_plain] at hx105_0 | skip)
     obtain ⟨hx14_0, hf14_0⟩ := Kd.R_celln 0 HO_0.out (x9_2 : Int) p14 q14; replace p14 := eq_true p14; replace q14 := eq_true q14; have HP20 := Kd.R_putn HO_0.out (x9_2 : Int) (rd x0_2 (ji9)); rw [← Ny106.out] at HP20; have HQ20 := A_ HP20; clear HP20; have p15 : 0 ≤ ((ji9) : Int) := oD; have q15 : ((ji9) : Int) < ((x0_2.length : Int) : Int) := oD; obtain ⟨hx15_0, hf15_0⟩ := Kd.R_celln 0 HQ20.out ((ji9) : Int) p15 q15; replace p15 := eq_true p15; replace q15 := eq_true q15; have HP21 := Kd.R_putn HQ20.out ((ji9) : Int) (rd x0_2 x9_2); rw [← Ny107.out] at HP21; have HQ21 := A_ HP21; clear HP21
     refine start_ (n := 18) (S := fun w' => w'.cell? ⟨go14, ((ji9)).toNat, none⟩ = some (.int .i64 (rd x0_2 (ji9))) ∧ w'.cell? ⟨go14, (x9_2).toNat, none⟩ = some (.int .i64 (rd x0_2 x9_2))) (ds := [15, 17]) (mkB 18 0) (by kernel_rfl) rfl rfl ⟨hx104_0, hx105_0⟩ (fun hHeld => ?_); refine with_tabW slices_insertionSortCmpFunc_int.tab6 slices_insertionSortCmpFunc_int.bits6 (fun HT_ HW_ => ?_)
     generalize w18.drew = w19 at HO_0 HK HB GG14 HQ20 HQ21 hf14_0 hf15_0 hx101_0 hx102_0 hx104_0 hx105_0 hx14_0 hx15_0 hHeld ⊢; refine pr_ 0 (some 37) (mkB 18 1) HT_ ?_; refine pr_ 1 (some 38) (mkB 18 3) HT_ ?_; refine pr_ 2 (some 39) (mkB 18 7) HT_ ?_; refine pr_ 3 (some 40) (mkB 18 15) HT_ ?_; refine pr_ 4 (some 41) (mkB 18 31) HT_ ?_; refine pr_ 5 (some 42) (mkB 18 63) HT_ ?_; refine pr_ 6 (some 43) (mkB 18 127) HT_ ?_; refine pr_ 7 (some 44) (mkB 18 255) HT_ ?_; refine pr_ 8 (some 45) (mkB 18 511) HT_ ?_; refine pr_ 10 (some 47) (mkB 18 1535) HT_ ?_; refine pr_ 11 (some 48) (mkB 18 3583) HT_ ?_; refine pr_ 12 (some 49) (mkB 18 7679) HT_ ?_
     refine take_ (i := 9) (N := some 46) (v := ?_) (a' := ?_) (mkB 18 8191) rfl rfl (take_ofW HT_.out HW_.out (by kernel_rfl)) (fun _ _ _ h => h) (Or.inl ⟨by rfl, ?_⟩) hHeld ?_ ?_
     rotate_left
     ·rintro w' ⟨s0, s1⟩
      go_simp
      with_reducible rfl
     rotate_left
     ·simp only [Act.put, List.setIfInBounds_toArray, List.set_cons_zero, List.set_cons_succ, i64_w, i32_w]
      rfl
     refine take_ (i := 13) (N := some 50) (v := ?_) (a' := ?_) (mkB 18 16383) rfl rfl (take_ofW HT_.out HW_.out (by kernel_rfl)) (fun _ _ _ h => h) (Or.inl ⟨by rfl, ?_⟩) hHeld ?_ ?_
     rotate_left
     ·rintro w' ⟨s0, s1⟩
      go_simp
      with_reducible rfl
     rotate_left
     ·simp only [Act.put, List.setIfInBounds_toArray, List.set_cons_zero, List.set_cons_succ, i64_w, i32_w]
      rfl
     refine pr_ 14 (some 51) (mkB 18 32767) HT_ ?_
     refine last_ (i := 15) (N := none) (mkB 18 65535) rfl rfl (one_of HT_.out (by kernel_rfl)) (by decide) (fun K hK => ?_)
     refine skip_ (w1 := ?_) (by rfl) rfl ?_ ?_
     rotate_left
     ·go_simp
      rfl
     refine hK.out _ _ ?_
     clear hK K; refine pr_ 16 (some 52) (mkB 18 131071) HT_ ?_
     refine last_ (i := 17) (N := none) (mkB 18 262143) rfl rfl (one_of HT_.out (by kernel_rfl)) (by decide) (fun K hK => ?_)
     refine skip_ (w1 := ?_) (by rfl) rfl ?_ ?_
     rotate_left
     ·go_simp
      rfl
     refine hK.out _ _ ?_
     clear hK K
     refine done_ (done_of HT_.out (by kernel_rfl)) ?_
     try go_wp2
     go_roundg k2
     case measure => have := HK1.out; have := HK2.out; omega
     case rel => exact ⟨(y107), (ji9), (by first | rfl | (simp; done) | (simp only [← hji9] <;> (first | rfl | simp)) | (simp [*]; done)), H', ⟨by have := HK1.out; have := HK2.out; omega⟩, ⟨rU HQ21.out⟩, ⟨by repeat (first | (with_reducible first | exact HK.out | apply Kept.alloc | apply Kept.drewN | apply Kept.drew | refine Kept.setCell ?_ HMgo14.out _ | refine Kept.setCell ?_ HMgo14.out _) | exact HK.out)⟩, ⟨by repeat (first | (with_reducible first | exact HB.out | apply below_alloc | apply pw_below_drewN | apply below_drew1 | refine below_set ?_ GB14.out | refine below_set ?_ GB14.out) | exact HB.out)⟩⟩
def slices_symMergeCmpFunc_int.f (_k : Nat) (_l0 : List Int) (_a1 : Int) (_a2 : Int) (_a3 : Int) (_a4 : (Int → Int → Option (Int))) : Option (List Int) := none
theorem slices_symMergeCmpFunc_int.mono : ∀ a0 a1 a2 a3 a4 k, LeO (slices_symMergeCmpFunc_int.f k a0 a1 a2 a3 a4) (slices_symMergeCmpFunc_int.f (k + 1) a0 a1 a2 a3 a4) := fun _ _ _ _ _ _ => LeO.none _
theorem slices_symMergeCmpFunc_int.calls (k : Nat) : ∀ (P0_ : Nat → Prop) (u9000_ : Value) (l0 : List Int) (a1 : Int) (a2 : Int) (a3 : Int) {g4 : FuncId} {lb4 : Array Value} (hen4 : EntersF Try.prog g4) (a4 : (Int → Int → Option (Int))) (r : List Int) (w0 w : World) (hB : Below w0.heap.size w0 w) (ho0 : Kd.R (Kd.int .i64) 3 w w0.heap.size P0_ u9000_ l0) (hfn4 : ∀ (z0_ : Int) (z1_ : Int) (q0_ : Int) (W_ : World), Below w0.heap.size w0 W_ → a4 z0_ z1_ = some q0_ → Calls Try.prog g4 (#[.int .i64 z0_, .int .i64 z1_] ++ lb4) W_ fun e w' => e = .returned (.int .i64 q0_) ∧ Below W_.heap.size W_ w') (h : slices_symMergeCmpFunc_int.f k l0 a1 a2 a3 a4 = some r),
  Calls Try.prog 97 #[u9000_, .int .i64 a1, .int .i64 a2, .int .i64 a3, .func (.func g4) #[] lb4] w fun e w' => e = .returned (.tuple #[]) ∧ Kd.R (Kd.int .i64) 3 w' w0.heap.size (fun k_ => (P0_ k_ ∨ w.heap.size ≤ k_)) u9000_ r ∧ Below w0.heap.size w0 w' ∧ Kept w w' (fun k_ => P0_ k_) := by
 intros
 rename_i h
 cases h
mutual
def slices_stableCmpFunc_int.l0 : Nat → List Int → Int → (Int → Int → Option (Int)) → Int → Int → Int → Option (List Int)
 | 0, _, _, _, _, _, _ => none
 | k + 1, x0, x1, x2, x6, x7, x8 => if x8 ≤ x1 then ((slices_insertionSortCmpFunc_int.f k x0 x7 x8 x2).bind fun t101 => (slices_stableCmpFunc_int.l0 k t101 x1 x2 x6 x8 (wrap64 (x8 + x6)))) else ((slices_insertionSortCmpFunc_int.f k x0 x7 x1 x2).bind fun t102 => (slices_stableCmpFunc_int.l1 k t102 x1 x2 x6))
def slices_stableCmpFunc_int.l1 : Nat → List Int → Int → (Int → Int → Option (Int)) → Int → Option (List Int)
 | 0, _, _, _, _ => none
 | k + 1, x0, x1, x2, x6 => if x6 < x1 then (slices_stableCmpFunc_int.l2 k x0 x1 x2 x6 0 (wrap64 (2 * x6))) else (some x0)
def slices_stableCmpFunc_int.l2 : Nat → List Int → Int → (Int → Int → Option (Int)) → Int → Int → Int → Option (List Int)
 | 0, _, _, _, _, _, _ => none
 | k + 1, x0, x1, x2, x6, x7, x8 => if x8 ≤ x1 then ((slices_symMergeCmpFunc_int.f k x0 x7 (wrap64 (x7 + x6)) x8 x2).bind fun t103 => (slices_stableCmpFunc_int.l2 k t103 x1 x2 x6 x8 (wrap64 (x8 + (wrap64 (2 * x6)))))) else (if (wrap64 (x7 + x6)) < x1 then ((slices_symMergeCmpFunc_int.f k x0 x7 (wrap64 (x7 + x6)) x1 x2).bind fun t104 => (slices_stableCmpFunc_int.l1 k t104 x1 x2 (wrap64 (x6 * 2)))) else (slices_stableCmpFunc_int.l1 k x0 x1 x2 (wrap64 (x6 * 2))))
end
def slices_stableCmpFunc_int.f (k : Nat) (l0 : List Int) (a1 : Int) (a2 : (Int → Int → Option (Int))) : Option (List Int) := slices_stableCmpFunc_int.l0 k l0 a1 a2 20 0 20
theorem slices_stableCmpFunc_int.mono_l : ∀ k, (∀ y0 y1 y2 y3 y4 y5, LeO (slices_stableCmpFunc_int.l0 k y0 y1 y2 y3 y4 y5) (slices_stableCmpFunc_int.l0 (k + 1) y0 y1 y2 y3 y4 y5)) ∧ (∀ y0 y1 y2 y3, LeO (slices_stableCmpFunc_int.l1 k y0 y1 y2 y3) (slices_stableCmpFunc_int.l1 (k + 1) y0 y1 y2 y3)) ∧ (∀ y0 y1 y2 y3 y4 y5, LeO (slices_stableCmpFunc_int.l2 k y0 y1 y2 y3 y4 y5) (slices_stableCmpFunc_int.l2 (k + 1) y0 y1 y2 y3 y4 y5))
 | 0 => ⟨fun _ _ _ _ _ _ r h => by simp [slices_stableCmpFunc_int.l0] at h, fun _ _ _ _ r h => by simp [slices_stableCmpFunc_int.l1] at h, fun _ _ _ _ _ _ r h => by simp [slices_stableCmpFunc_int.l2] at h⟩
 | k + 1 => by
  obtain ⟨ih0, ih1, ih2⟩ := slices_stableCmpFunc_int.mono_l k
  refine ⟨?_, ?_, ?_⟩
  ·intro y0 y1 y2 y3 y4 y5
   unfold slices_stableCmpFunc_int.l0
   repeat' first
   | (with_reducible exact ih0 _ _ _ _ _ _)
   | (with_reducible exact ih1 _ _ _ _)
   | (with_reducible exact ih2 _ _ _ _ _ _)
   | (with_reducible exact slices_insertionSortCmpFunc_int.mono _ _ _ _ _)
   | (with_reducible exact slices_symMergeCmpFunc_int.mono _ _ _ _ _ _)
   | (with_reducible exact LeO.refl _)
   | (with_reducible exact LeO.none _)
   | (with_reducible refine LeO.ite ?_ ?_)
   | (with_reducible refine LeO.bind ?_ (fun _ => ?_))
   | exact ih0 _ _ _ _ _ _
   | exact ih1 _ _ _ _
   | exact ih2 _ _ _ _ _ _
   | exact slices_insertionSortCmpFunc_int.mono _ _ _ _ _
   | exact slices_symMergeCmpFunc_int.mono _ _ _ _ _ _
   | exact LeO.none _
   | refine LeO.ite ?_ ?_
   | refine LeO.bind ?_ (fun _ => ?_)
  ·intro y0 y1 y2 y3
   unfold slices_stableCmpFunc_int.l1
   repeat' first
   | (with_reducible exact ih0 _ _ _ _ _ _)
   | (with_reducible exact ih1 _ _ _ _)
   | (with_reducible exact ih2 _ _ _ _ _ _)
   | (with_reducible exact slices_insertionSortCmpFunc_int.mono _ _ _ _ _)
   | (with_reducible exact slices_symMergeCmpFunc_int.mono _ _ _ _ _ _)
   | (with_reducible exact LeO.refl _)
   | (with_reducible exact LeO.none _)
   | (with_reducible refine LeO.ite ?_ ?_)
   | (with_reducible refine LeO.bind ?_ (fun _ => ?_))
   | exact ih0 _ _ _ _ _ _
   | exact ih1 _ _ _ _
   | exact ih2 _ _ _ _ _ _
   | exact slices_insertionSortCmpFunc_int.mono _ _ _ _ _
   | exact slices_symMergeCmpFunc_int.mono _ _ _ _ _ _
   | exact LeO.none _
   | refine LeO.ite ?_ ?_
   | refine LeO.bind ?_ (fun _ => ?_)
  ·intro y0 y1 y2 y3 y4 y5
   unfold slices_stableCmpFunc_int.l2
   repeat' first
   | (with_reducible exact ih0 _ _ _ _ _ _)
   | (with_reducible exact ih1 _ _ _ _)
   | (with_reducible exact ih2 _ _ _ _ _ _)
   | (with_reducible exact slices_insertionSortCmpFunc_int.mono _ _ _ _ _)
   | (with_reducible exact slices_symMergeCmpFunc_int.mono _ _ _ _ _ _)
   | (with_reducible exact LeO.refl _)
   | (with_reducible exact LeO.none _)
   | (with_reducible refine LeO.ite ?_ ?_)
   | (with_reducible refine LeO.bind ?_ (fun _ => ?_))
   | exact ih0 _ _ _ _ _ _
   | exact ih1 _ _ _ _
   | exact ih2 _ _ _ _ _ _
   | exact slices_insertionSortCmpFunc_int.mono _ _ _ _ _
   | exact slices_symMergeCmpFunc_int.mono _ _ _ _ _ _
   | exact LeO.none _
   | refine LeO.ite ?_ ?_
   | refine LeO.bind ?_ (fun _ => ?_)
theorem slices_stableCmpFunc_int.mono : ∀ a0 a1 a2 k, LeO (slices_stableCmpFunc_int.f k a0 a1 a2) (slices_stableCmpFunc_int.f (k + 1) a0 a1 a2) := by
 intro a0 a1 a2 k
 obtain ⟨ih0, ih1, ih2⟩ := slices_stableCmpFunc_int.mono_l k
 unfold slices_stableCmpFunc_int.f
 repeat' first
   | (with_reducible exact ih0 _ _ _ _ _ _)
   | (with_reducible exact ih1 _ _ _ _)
   | (with_reducible exact ih2 _ _ _ _ _ _)
   | (with_reducible exact slices_insertionSortCmpFunc_int.mono _ _ _ _ _)
   | (with_reducible exact slices_symMergeCmpFunc_int.mono _ _ _ _ _ _)
   | (with_reducible exact LeO.refl _)
   | (with_reducible exact LeO.none _)
   | (with_reducible refine LeO.ite ?_ ?_)
   | (with_reducible refine LeO.bind ?_ (fun _ => ?_))
   | exact ih0 _ _ _ _ _ _
   | exact ih1 _ _ _ _
   | exact ih2 _ _ _ _ _ _
   | exact slices_insertionSortCmpFunc_int.mono _ _ _ _ _
   | exact slices_symMergeCmpFunc_int.mono _ _ _ _ _ _
   | exact LeO.none _
   | refine LeO.ite ?_ ?_
   | refine LeO.bind ?_ (fun _ => ?_)
set_option maxHeartbeats 8000000 in
set_option maxRecDepth 100000 in
theorem slices_stableCmpFunc_int.calls (k : Nat) (P0_ : Nat → Prop) (u9000_ : Value) (l0 : List Int) (a1 : Int) {g2 : FuncId} {lb2 : Array Value} (hen2 : EntersF Try.prog g2) (a2 : (Int → Int → Option (Int))) (r : List Int) (w0 w : World) (hB : Below w0.heap.size w0 w) (ho0 : Kd.R (Kd.int .i64) 3 w w0.heap.size P0_ u9000_ l0) (hfn2 : ∀ (z0_ : Int) (z1_ : Int) (q0_ : Int) (W_ : World), Below w0.heap.size w0 W_ → a2 z0_ z1_ = some q0_ → Calls Try.prog g2 (#[.int .i64 z0_, .int .i64 z1_] ++ lb2) W_ fun e w' => e = .returned (.int .i64 q0_) ∧ Below W_.heap.size W_ w') (h : slices_stableCmpFunc_int.f k l0 a1 a2 = some r) :
  Calls Try.prog 88 #[u9000_, .int .i64 a1, .func (.func g2) #[] lb2] w fun e w' => e = .returned (.tuple #[]) ∧ Kd.R (Kd.int .i64) 3 w' w0.heap.size (fun k_ => (P0_ k_ ∨ w.heap.size ≤ k_)) u9000_ r ∧ Below w0.heap.size w0 w' ∧ Kept w w' (fun k_ => P0_ k_) := by
 have HO0 := A_ (show Kd.R (Kd.int .i64) 3 w w0.heap.size (fun k_ => (P0_ k_ ∨ w.heap.size ≤ k_)) u9000_ l0 from Kd.R_mono ho0 (fun k_ hk => (.inl hk)))
 have HFN2 := A_ hfn2; have HEN2 := A_ hen2; clear hfn2 hen2
 have HK := A_ (Kept.refl w (fun k_ => P0_ k_))
 have HW0 := A_ hB.size; have HB := A_ hB; clear hB; have H : (slices_stableCmpFunc_int.l0 k l0 a1 a2 20 0 20) = some r := h; clear h; have H' := A_ H; clear H
 go_enter Try.func88, Try.ntmps88
 go_wp2
 go_loopg [7, 8] k (fun kq v7 v8 w' => ∃ (x0_1 : List Int) (x7_1 : Int) (x8_1 : Int), v7 = .int .i64 x7_1 ∧ v8 = .int .i64 x8_1 ∧ Aside0 (slices_stableCmpFunc_int.l0 kq x0_1 a1 a2 20 x7_1 x8_1 = some r) ∧ Aside0 (kq ≤ k) ∧ Aside0 (Kd.R (Kd.int .i64) 3 w' w0.heap.size (fun k_ => (P0_ k_ ∨ w.heap.size ≤ k_)) u9000_ x0_1) ∧ Aside0 (Kept w w' (fun k_ => P0_ k_)) ∧ Aside0 (Below w0.heap.size w0 w'))
 case atStart => exact ⟨(l0), (0), (20), eS, eS, H', ⟨Nat.le_refl _⟩, ⟨rU HO0.out⟩, ⟨by repeat (first | (with_reducible first | exact HK.out | apply Kept.alloc | apply Kept.drewN | apply Kept.drew) | exact HK.out)⟩, ⟨by repeat (first | (with_reducible first | exact HB.out | apply below_alloc | apply pw_below_drewN | apply below_drew1) | exact HB.out)⟩⟩
 case round =>
  clear H'
  try clear p2
  obtain ⟨x0_1, x7_1, x8_1, rfl, rfl, HA, HK1, HO_0, HK, HB⟩ := hrel
  cases gk with
  | zero => exact absurd HA.out (by simp [slices_stableCmpFunc_int.l0])
  | succ k1 =>
   have H := HA.out; clear HA; simp only [slices_stableCmpFunc_int.l0] at H; by_cases c4 : x8_1 ≤ a1
   ·rw [if_pos c4] at H
    have c4b0 : decide (x8_1 ≤ a1) = true := decide_eq_true c4; clear c4; replace H := Option.bind_eq_some_iff.mp H; obtain ⟨t101, A50, H⟩ := H; (try dsimp only at H); have A5 := A_ A50; clear A50; have H' := A_ H; clear H; obtain ⟨Ao6, co6, eo6⟩ := Kd.R_slice HO_0.out; subst eo6
    go_wp2_with (first | ((with_reducible refine gate_callee (f := 96) rfl ?_); refine goesW_ (some 18) Try.func96 #[.slice Ao6 x0_1.length co6, .int .i64 x7_1, .int .i64 x8_1, .func (.func g2) #[] lb2] ?_; (with_reducible refine (slices_insertionSortCmpFunc_int.calls k1 (fun k_ => some k_ = (.slice Ao6 x0_1.length co6 : Value).ownBlock) (.slice Ao6 x0_1.length co6) x0_1 x7_1 x8_1 HEN2.out a2 t101 w0 _ ?side1 ?side2 ?side3 A5.out).mono ?_); (case side1 => repeat (first | (with_reducible first | exact HB.out | apply below_alloc | apply pw_below_drewN | apply below_drew1) | exact HB.out)); (case side2 => exact Kd.R_tight rfl HO_0.out); (case side3 => exact HFN2.out); rintro e w7 ⟨rfl, hy0, hb, hkp⟩; refine ⟨_, rfl, ?_⟩; have n0_ := A_ (Kd.R_reok rfl hy0 (fun k_ e_ => HO_0.out.1 k_ e_)); have n1_ := A_ (Kept.then_ (S := (fun k_ => P0_ k_)) (by repeat (first | (with_reducible first | exact HK.out | apply Kept.alloc | apply Kept.drewN | apply Kept.drew) | exact HK.out)) hkp (fun k_ hs_ => (fun e_ => (HO_0.out.1 k_ e_.symm)) hs_)); have n2_ := A_ (hb); clear HO_0; clear HK; clear HB; have HO_0 := n0_; have HK := n1_; have HB := n2_; clear n0_ n1_ n2_; (try clear hb); (try clear hkp); (try clear hy0)))
    go_roundg k1
    case measure => have := HK1.out; omega
    case rel => exact ⟨(t101), (x8_1), (wrap64 (x8_1 + 20)), eS, eS, H', ⟨by have := HK1.out; omega⟩, ⟨rU HO_0.out⟩, ⟨by repeat (first | (with_reducible first | exact HK.out | apply Kept.alloc | apply Kept.drewN | apply Kept.drew) | exact HK.out)⟩, ⟨by repeat (first | (with_reducible first | exact HB.out | apply below_alloc | apply pw_below_drewN | apply below_drew1) | exact HB.out)⟩⟩
   rw [if_neg c4] at H; have c4b0 : decide (x8_1 ≤ a1) = false := decide_eq_false c4; clear c4; replace H := Option.bind_eq_some_iff.mp H; obtain ⟨t102, A80, H⟩ := H; (try dsimp only at H); have A8 := A_ A80; clear A80; have H' := A_ H; clear H; obtain ⟨Ao9, co9, eo9⟩ := Kd.R_slice HO_0.out; subst eo9
   go_wp2_with (first | ((with_reducible refine gate_callee (f := 96) rfl ?_); refine goesW_ (some 27) Try.func96 #[.slice Ao9 x0_1.length co9, .int .i64 x7_1, .int .i64 a1, .func (.func g2) #[] lb2] ?_; (with_reducible refine (slices_insertionSortCmpFunc_int.calls k1 (fun k_ => some k_ = (.slice Ao9 x0_1.length co9 : Value).ownBlock) (.slice Ao9 x0_1.length co9) x0_1 x7_1 a1 HEN2.out a2 t102 w0 _ ?side1 ?side2 ?side3 A8.out).mono ?_); (case side1 => repeat (first | (with_reducible first | exact HB.out | apply below_alloc | apply pw_below_drewN | apply below_drew1) | exact HB.out)); (case side2 => exact Kd.R_tight rfl HO_0.out); (case side3 => exact HFN2.out); rintro e w10 ⟨rfl, hy0, hb, hkp⟩; refine ⟨_, rfl, ?_⟩; have n0_ := A_ (Kd.R_reok rfl hy0 (fun k_ e_ => HO_0.out.1 k_ e_)); have n1_ := A_ (Kept.then_ (S := (fun k_ => P0_ k_)) (by repeat (first | (with_reducible first | exact HK.out | apply Kept.alloc | apply Kept.drewN | apply Kept.drew) | exact HK.out)) hkp (fun k_ hs_ => (fun e_ => (HO_0.out.1 k_ e_.symm)) hs_)); have n2_ := A_ (hb); clear HO_0; clear HK; clear HB; have HO_0 := n0_; have HK := n1_; have HB := n2_; clear n0_ n1_ n2_; (try clear hb); (try clear hkp); (try clear hy0)))
   (try simp only [Act.put, List.setIfInBounds_toArray, List.set_cons_zero, List.set_cons_succ])
   go_loopg [6] k1 (fun kq v6 w' => ∃ (x0_2 : List Int) (x6_2 : Int), v6 = .int .i64 x6_2 ∧ Aside0 (slices_stableCmpFunc_int.l1 kq x0_2 a1 a2 x6_2 = some r) ∧ Aside0 (kq ≤ k1) ∧ Aside0 (Kd.R (Kd.int .i64) 3 w' w0.heap.size (fun k_ => (P0_ k_ ∨ w.heap.size ≤ k_)) (.slice Ao9 x0_1.length co9) x0_2) ∧ Aside0 (Kept w w' (fun k_ => P0_ k_)) ∧ Aside0 (Below w0.heap.size w0 w'))
   case atStart => exact ⟨(t102), (20), eS, H', ⟨Nat.le_refl _⟩, ⟨rU HO_0.out⟩, ⟨by repeat (first | (with_reducible first | exact HK.out | apply Kept.alloc | apply Kept.drewN | apply Kept.drew) | exact HK.out)⟩, ⟨by repeat (first | (with_reducible first | exact HB.out | apply below_alloc | apply pw_below_drewN | apply below_drew1) | exact HB.out)⟩⟩
   case round =>
    clear H'
    try clear p2; try clear c4; try clear c4b0; try clear p6; try clear c8; try clear c9; try clear p2
    obtain ⟨x0_2, x6_2, rfl, HA, HK2, HO_0, HK, HB⟩ := hrel; have hl0_2 := (Kd.R_reads' HO_0.out).1; rw [hl0_2] at HO_0
    (try simp only [hl0_2])
    cases gk with
    | zero => exact absurd HA.out (by simp [slices_stableCmpFunc_int.l1])
    | succ k2 =>
     have H := HA.out; clear HA; simp only [slices_stableCmpFunc_int.l1] at H; by_cases c11 : x6_2 < a1; rotate_left
     ·rw [if_neg c11] at H
      have c11b0 : decide (x6_2 < a1) = false := decide_eq_false c11; clear c11; obtain rfl := Option.some.inj H
      go_wp2
      first | go_end0 | ((try simp only [Exit.inBlock, Exit.then]); refine bodyPost_ret (results_none rfl _ _ _) rfl ?_)
      exact ⟨eQ, (by first | exact (rU HO_0.out) | (simp only [hl0_2]; exact (rU HO_0.out))), by repeat (first | (with_reducible first | exact HB.out | apply below_alloc | apply pw_below_drewN | apply below_drew1) | exact HB.out), by repeat (first | (with_reducible first | exact HK.out | apply Kept.alloc | apply Kept.drewN | apply Kept.drew) | exact HK.out)⟩
     rw [if_pos c11] at H; have c11b0 : decide (x6_2 < a1) = true := decide_eq_true c11; clear c11; have H' := A_ H; clear H
     go_wp2
     go_loopg [7, 8] k2 (fun kq v7 v8 w' => ∃ (x0_3 : List Int) (x7_3 : Int) (x8_3 : Int), v7 = .int .i64 x7_3 ∧ v8 = .int .i64 x8_3 ∧ Aside0 (slices_stableCmpFunc_int.l2 kq x0_3 a1 a2 x6_2 x7_3 x8_3 = some r) ∧ Aside0 (kq ≤ k2) ∧ Aside0 (Kd.R (Kd.int .i64) 3 w' w0.heap.size (fun k_ => (P0_ k_ ∨ w.heap.size ≤ k_)) (.slice Ao9 x0_2.length co9) x0_3) ∧ Aside0 (Kept w w' (fun k_ => P0_ k_)) ∧ Aside0 (Below w0.heap.size w0 w'))
     case atStart => exact ⟨(x0_2), (0), (wrap64 (2 * x6_2)), eS, eS, H', ⟨Nat.le_refl _⟩, ⟨by (try simp only [hl0_2]); (with_reducible repeat (first | apply Kd.R_alloc | apply Kd.R_drewN | apply Kd.R_drew)); exact HO_0.out⟩, ⟨by repeat (first | (with_reducible first | exact HK.out | apply Kept.alloc | apply Kept.drewN | apply Kept.drew) | exact HK.out)⟩, ⟨by repeat (first | (with_reducible first | exact HB.out | apply below_alloc | apply pw_below_drewN | apply below_drew1) | exact HB.out)⟩⟩
     case round =>
      clear H'
      try clear c1; try clear p2; try clear c4; try clear c4b0; try clear p6; try clear c8; try clear c9; try clear c11; try clear c11b0; try clear p2; try clear p6
      obtain ⟨x0_3, x7_3, x8_3, rfl, rfl, HA, HK3, HO_0, HK, HB⟩ := hrel; have hl0_3 := (Kd.R_reads' HO_0.out).1; rw [hl0_3] at HO_0
      (try simp only [hl0_3])
      cases gk with
      | zero => exact absurd HA.out (by simp [slices_stableCmpFunc_int.l2])
      | succ k3 =>
       have H := HA.out; clear HA; simp only [slices_stableCmpFunc_int.l2] at H; by_cases c12 : x8_3 ≤ a1
       ·rw [if_pos c12] at H
        have c12b0 : decide (x8_3 ≤ a1) = true := decide_eq_true c12; clear c12; replace H := Option.bind_eq_some_iff.mp H; obtain ⟨t103, A130, H⟩ := H; (try dsimp only at H); have A13 := A_ A130; clear A130; have H' := A_ H; clear H
        go_wp2_with (first | ((with_reducible refine gate_callee (f := 97) rfl ?_); refine goesW_ (some 43) Try.func97 #[.slice Ao9 x0_3.length co9, .int .i64 x7_3, .int .i64 (wrap64 (x7_3 + x6_2)), .int .i64 x8_3, .func (.func g2) #[] lb2] ?_; (with_reducible refine (slices_symMergeCmpFunc_int.calls k3 (fun k_ => some k_ = (.slice Ao9 x0_3.length co9 : Value).ownBlock) (.slice Ao9 x0_3.length co9) x0_3 x7_3 (wrap64 (x7_3 + x6_2)) x8_3 HEN2.out a2 t103 w0 _ ?side1 ?side2 ?side3 A13.out).mono ?_); (case side1 => repeat (first | (with_reducible first | exact HB.out | apply below_alloc | apply pw_below_drewN | apply below_drew1) | exact HB.out)); (case side2 => exact Kd.R_tight rfl HO_0.out); (case side3 => exact HFN2.out); rintro e w14 ⟨rfl, hy0, hb, hkp⟩; refine ⟨_, rfl, ?_⟩; have n0_ := A_ (Kd.R_reok rfl hy0 (fun k_ e_ => HO_0.out.1 k_ e_)); have n1_ := A_ (Kept.then_ (S := (fun k_ => P0_ k_)) (by repeat (first | (with_reducible first | exact HK.out | apply Kept.alloc | apply Kept.drewN | apply Kept.drew) | exact HK.out)) hkp (fun k_ hs_ => (fun e_ => (HO_0.out.1 k_ e_.symm)) hs_)); have n2_ := A_ (hb); clear HO_0; clear HK; clear HB; have HO_0 := n0_; have HK := n1_; have HB := n2_; clear n0_ n1_ n2_; (try clear hb); (try clear hkp); (try clear hy0)))
        (try simp only [← hl0_3])
        go_roundg k3
        case measure => have := HK1.out; have := HK2.out; have := HK3.out; omega
        case rel => exact ⟨(t103), (x8_3), (wrap64 (x8_3 + (wrap64 (2 * x6_2)))), eS, eS, H', ⟨by have := HK1.out; have := HK2.out; have := HK3.out; omega⟩, ⟨by (try simp only [hl0_2]); (try simp only [hl0_3]); (with_reducible repeat (first | apply Kd.R_alloc | apply Kd.R_drewN | apply Kd.R_drew)); exact HO_0.out⟩, ⟨by repeat (first | (with_reducible first | exact HK.out | apply Kept.alloc | apply Kept.drewN | apply Kept.drew) | exact HK.out)⟩, ⟨by repeat (first | (with_reducible first | exact HB.out | apply below_alloc | apply pw_below_drewN | apply below_drew1) | exact HB.out)⟩⟩
       rw [if_neg c12] at H; have c12b0 : decide (x8_3 ≤ a1) = false := decide_eq_false c12; clear c12; by_cases c15 : (wrap64 (x7_3 + x6_2)) < a1; rotate_left
       ·rw [if_neg c15] at H
        have c15b0 : decide ((wrap64 (x7_3 + x6_2)) < a1) = false := decide_eq_false c15; clear c15; have H' := A_ H; clear H
        go_wp2
        (try simp only [← hl0_2, ← hl0_3])
        go_roundg k3
        case measure => have := HK1.out; have := HK2.out; have := HK3.out; omega
        case rel => exact ⟨(x0_3), (wrap64 (x6_2 * 2)), eS, H', ⟨by have := HK1.out; have := HK2.out; have := HK3.out; omega⟩, ⟨by (try simp only [hl0_2]); (try simp only [hl0_3]); (with_reducible repeat (first | apply Kd.R_alloc | apply Kd.R_drewN | apply Kd.R_drew)); exact HO_0.out⟩, ⟨by repeat (first | (with_reducible first | exact HK.out | apply Kept.alloc | apply Kept.drewN | apply Kept.drew) | exact HK.out)⟩, ⟨by repeat (first | (with_reducible first | exact HB.out | apply below_alloc | apply pw_below_drewN | apply below_drew1) | exact HB.out)⟩⟩
       rw [if_pos c15] at H; have c15b0 : decide ((wrap64 (x7_3 + x6_2)) < a1) = true := decide_eq_true c15; clear c15; replace H := Option.bind_eq_some_iff.mp H; obtain ⟨t104, A160, H⟩ := H; (try dsimp only at H); have A16 := A_ A160; clear A160; have H' := A_ H; clear H
       go_wp2_with (first | ((with_reducible refine gate_callee (f := 97) rfl ?_); refine goesW_ (some 60) Try.func97 #[.slice Ao9 x0_3.length co9, .int .i64 x7_3, .int .i64 (wrap64 (x7_3 + x6_2)), .int .i64 a1, .func (.func g2) #[] lb2] ?_; (with_reducible refine (slices_symMergeCmpFunc_int.calls k3 (fun k_ => some k_ = (.slice Ao9 x0_3.length co9 : Value).ownBlock) (.slice Ao9 x0_3.length co9) x0_3 x7_3 (wrap64 (x7_3 + x6_2)) a1 HEN2.out a2 t104 w0 _ ?side1 ?side2 ?side3 A16.out).mono ?_); (case side1 => repeat (first | (with_reducible first | exact HB.out | apply below_alloc | apply pw_below_drewN | apply below_drew1) | exact HB.out)); (case side2 => exact Kd.R_tight rfl HO_0.out); (case side3 => exact HFN2.out); rintro e w17 ⟨rfl, hy0, hb, hkp⟩; refine ⟨_, rfl, ?_⟩; have n0_ := A_ (Kd.R_reok rfl hy0 (fun k_ e_ => HO_0.out.1 k_ e_)); have n1_ := A_ (Kept.then_ (S := (fun k_ => P0_ k_)) (by repeat (first | (with_reducible first | exact HK.out | apply Kept.alloc | apply Kept.drewN | apply Kept.drew) | exact HK.out)) hkp (fun k_ hs_ => (fun e_ => (HO_0.out.1 k_ e_.symm)) hs_)); have n2_ := A_ (hb); clear HO_0; clear HK; clear HB; have HO_0 := n0_; have HK := n1_; have HB := n2_; clear n0_ n1_ n2_; (try clear hb); (try clear hkp); (try clear hy0)))
       (try simp only [← hl0_2, ← hl0_3])
       go_roundg k3
       case measure => have := HK1.out; have := HK2.out; have := HK3.out; omega
       case rel => exact ⟨(t104), (wrap64 (x6_2 * 2)), eS, H', ⟨by have := HK1.out; have := HK2.out; have := HK3.out; omega⟩, ⟨by (try simp only [hl0_2]); (try simp only [hl0_3]); (with_reducible repeat (first | apply Kd.R_alloc | apply Kd.R_drewN | apply Kd.R_drew)); exact HO_0.out⟩, ⟨by repeat (first | (with_reducible first | exact HK.out | apply Kept.alloc | apply Kept.drewN | apply Kept.drew) | exact HK.out)⟩, ⟨by repeat (first | (with_reducible first | exact HB.out | apply below_alloc | apply pw_below_drewN | apply below_drew1) | exact HB.out)⟩⟩
def slices_SortStableFunc_int_int.f (k : Nat) (l0 : List Int) (a1 : (Int → Int → Option (Int))) : Option (List Int) := (slices_stableCmpFunc_int.f k l0 (l0.length : Int) a1).bind fun t101 => (some t101)
theorem slices_SortStableFunc_int_int.mono : ∀ a0 a1 k, LeO (slices_SortStableFunc_int_int.f k a0 a1) (slices_SortStableFunc_int_int.f (k + 1) a0 a1) := by
 intro a0 a1 k
 unfold slices_SortStableFunc_int_int.f
 repeat' first
   | (with_reducible exact slices_stableCmpFunc_int.mono _ _ _ _)
   | (with_reducible exact LeO.refl _)
   | (with_reducible exact LeO.none _)
   | (with_reducible refine LeO.ite ?_ ?_)
   | (with_reducible refine LeO.bind ?_ (fun _ => ?_))
   | exact slices_stableCmpFunc_int.mono _ _ _ _
   | exact LeO.none _
   | refine LeO.ite ?_ ?_
   | refine LeO.bind ?_ (fun _ => ?_)
set_option maxHeartbeats 8000000 in
set_option maxRecDepth 100000 in
theorem slices_SortStableFunc_int_int.calls (k : Nat) (P0_ : Nat → Prop) (u9000_ : Value) (l0 : List Int) {g1 : FuncId} {lb1 : Array Value} (hen1 : EntersF Try.prog g1) (a1 : (Int → Int → Option (Int))) (r : List Int) (w0 w : World) (hB : Below w0.heap.size w0 w) (ho0 : Kd.R (Kd.int .i64) 3 w w0.heap.size P0_ u9000_ l0) (hfn1 : ∀ (z0_ : Int) (z1_ : Int) (q0_ : Int) (W_ : World), Below w0.heap.size w0 W_ → a1 z0_ z1_ = some q0_ → Calls Try.prog g1 (#[.int .i64 z0_, .int .i64 z1_] ++ lb1) W_ fun e w' => e = .returned (.int .i64 q0_) ∧ Below W_.heap.size W_ w') (h : slices_SortStableFunc_int_int.f k l0 a1 = some r) :
  Calls Try.prog 76 #[u9000_, .func (.func g1) #[] lb1] w fun e w' => e = .returned (.tuple #[]) ∧ Kd.R (Kd.int .i64) 3 w' w0.heap.size (fun k_ => (P0_ k_ ∨ w.heap.size ≤ k_)) u9000_ r ∧ Below w0.heap.size w0 w' ∧ Kept w w' (fun k_ => P0_ k_) := by
 have HO0 := A_ (show Kd.R (Kd.int .i64) 3 w w0.heap.size (fun k_ => (P0_ k_ ∨ w.heap.size ≤ k_)) u9000_ l0 from Kd.R_mono ho0 (fun k_ hk => (.inl hk)))
 have HFN1 := A_ hfn1
 have HEN1 := A_ hen1
 clear hfn1 hen1
 have HK := A_ (Kept.refl w (fun k_ => P0_ k_))
 have HW0 := A_ hB.size
 have HB := A_ hB
 clear hB
 have H : ((slices_stableCmpFunc_int.f k l0 (l0.length : Int) a1).bind fun t101 => (some t101)) = some r := h
 clear h
 replace H := Option.bind_eq_some_iff.mp H
 obtain ⟨t101, A30, H⟩ := H
 replace H : (some t101) = some r := H
 have A3 := A_ A30
 clear A30
 obtain rfl := Option.some.inj H
 obtain ⟨Ao4, co4, eo4⟩ := Kd.R_slice HO0.out
 subst eo4
 go_enter Try.func76, Try.ntmps76
 go_wp2_with (first | ((with_reducible refine gate_callee (f := 88) rfl ?_); refine goesW_ (some 8) Try.func88 #[.slice Ao4 l0.length co4, .int .i64 (l0.length : Int), .func (.func g1) #[] lb1] ?_; (with_reducible refine (slices_stableCmpFunc_int.calls k (fun k_ => some k_ = (.slice Ao4 l0.length co4 : Value).ownBlock) (.slice Ao4 l0.length co4) l0 (l0.length : Int) HEN1.out a1 t101 w0 _ ?side1 ?side2 ?side3 A3.out).mono ?_); (case side1 => repeat (first | (with_reducible first | exact HB.out | apply below_alloc | apply pw_below_drewN | apply below_drew1) | exact HB.out)); (case side2 => exact Kd.R_tight rfl HO0.out); (case side3 => exact HFN1.out); rintro e w5 ⟨rfl, hy0, hb, hkp⟩; refine ⟨_, rfl, ?_⟩; have n0_ := A_ (Kd.R_reok rfl hy0 (fun k_ e_ => HO0.out.1 k_ e_)); have n1_ := A_ (Kept.then_ (S := (fun k_ => P0_ k_)) (by repeat (first | (with_reducible first | exact HK.out | apply Kept.alloc | apply Kept.drewN | apply Kept.drew) | exact HK.out)) hkp (fun k_ hs_ => (fun e_ => (HO0.out.1 k_ e_.symm)) hs_)); have n2_ := A_ (hb); clear HO0; clear HK; clear HB; have HO0 := n0_; have HK := n1_; have HB := n2_; clear n0_ n1_ n2_; (try clear hb); (try clear hkp); (try clear hy0)))
 first | go_end0 | ((try simp only [Exit.inBlock, Exit.then]); refine bodyPost_ret (results_none rfl _ _ _) rfl ?_)
 exact ⟨eQ, by (with_reducible repeat (first | apply Kd.R_alloc | apply Kd.R_drewN | apply Kd.R_drew)); exact HO0.out, by repeat (first | (with_reducible first | exact HB.out | apply below_alloc | apply pw_below_drewN | apply below_drew1) | exact HB.out), by repeat (first | (with_reducible first | exact HK.out | apply Kept.alloc | apply Kept.drewN | apply Kept.drew) | exact HK.out)⟩
def cmp_isNaN_int.f (a0 : Int) : Option (Bool) := some (a0 != a0)
set_option maxHeartbeats 8000000 in
set_option maxRecDepth 100000 in
theorem cmp_isNaN_int.calls (a0 : Int) (r : Bool) (w : World) (h : cmp_isNaN_int.f a0 = some r) :
  Calls Try.prog 89 #[.int .i64 a0] w fun e w' => e = .returned (.bool r) ∧ Drawn0 w w' := by
 have H : (some (a0 != a0)) = some r := h
 clear h
 obtain rfl := Option.some.inj H
 go_enter Try.func89, Try.ntmps89
 go_wp2
 go_ret
 exact ⟨by first | rfl | (simp; done) | (simp [*]; done), by repeat (first | exact Drawn0.refl _ | apply Drawn0.step)⟩
end Go.Proofs.Ythbpibdfookbmaa.G
end
