/- Functions of the seat and plain laws about them: GF55. -/
import Derived.Test.YthbpibdfookbmaaGBase
import Derived.Test.YthbpibdfookbmaaZL3
import Derived.Test.YthbpibdfookbmaaZL4
section
namespace Go.Proofs.Ythbpibdfookbmaa.G
open Go.RowKit Go.Proofs.YthbpibdfookbmaaW.PrintWords Go.Proofs.YthbpibdfookbmaaW.PrintLast Go.Proofs.YthbpibdfookbmaaW.PrintMore
attribute [local go_sem] max2_int min2_int max_two min_two max_three min_three max_four min_four   -- for this text's walks alone
set_option linter.unusedVariables false
set_option linter.unusedSimpArgs false

/-! ### dropperref08_Table: function 55 -/
mutual
def dropperref08_Table.l0 : Nat → List Int → List Bool → List (List Int) → Int → Option ((List (List Bool)))
  | 0, _, _, _, _ => none
  | k + 1, x0, x3, x4, x5 => if x5 < (x3.length : Int) then (if 0 ≤ x5 then (dropperref08_Table.l1 k x0 (x3.set (x5 : Int).toNat true) x4 x5 (-1)) else (none)) else (dropperref08_Table.l2 k x3 x4 (([x3] : List (List Bool))) true)
def dropperref08_Table.l1 : Nat → List Int → List Bool → List (List Int) → Int → Int → Option ((List (List Bool)))
  | 0, _, _, _, _, _ => none
  | k + 1, x0, x3, x4, x5, x6 => if x6 < (x0.length : Int) then ((dropperref08_numbered.f k x0 x5).bind fun t609 => ((dropperref08_tonight.f k x0 t609 x6).bind fun bt612 => (if bt612.2 = true then (if 0 ≤ x5 then (if x5 < (x4.length : Int) then ((dropperref08_number.f k x0 bt612.1).bind fun t617 => (if (rd_L1 x4 x5).length < 17592186044416 then (dropperref08_Table.l1 k x0 x3 (x4.set (x5 : Int).toNat ((rd_L1 x4 x5) ++ [t617])) x5 (wrap64 (x6 + 1))) else (none))) else (none)) else (none)) else (dropperref08_Table.l1 k x0 x3 x4 x5 (wrap64 (x6 + 1)))))) else (dropperref08_Table.l0 k x0 x3 x4 (wrap64 (x5 + 1)))
def dropperref08_Table.l2 : Nat → List Bool → List (List Int) → List (List Bool) → Bool → Option ((List (List Bool)))
  | 0, _, _, _, _ => none
  | k + 1, x3, x4, x9, x10 => if x10 = true then (if 0 ≤ (x3.length : Int) then (if ((x3.length : Int) : Int).toNat ≤ 281474976710656 then (dropperref08_Table.l3 k x3 x4 x9 false (List.replicate ((x3.length : Int) : Int).toNat false) 0) else (none)) else (none)) else (some x9)
def dropperref08_Table.l3 : Nat → List Bool → List (List Int) → List (List Bool) → Bool → List Bool → Int → Option ((List (List Bool)))
  | 0, _, _, _, _, _, _ => none
  | k + 1, x3, x4, x9, x10, x11, x12 => if x12 < (x3.length : Int) then (dropperref08_Table.l4 k x3 x4 x9 x10 x11 x12 0) else (if x10 = true then (if x9.length < 5864062014805 then (dropperref08_Table.l2 k x11 x4 (x9 ++ [x11]) x10) else (none)) else (dropperref08_Table.l2 k x3 x4 x9 x10))
def dropperref08_Table.l4 : Nat → List Bool → List (List Int) → List (List Bool) → Bool → List Bool → Int → Int → Option ((List (List Bool)))
  | 0, _, _, _, _, _, _, _ => none
  | k + 1, x3, x4, x9, x10, x11, x12, x13 => if 0 ≤ x12 then (if x12 < (x4.length : Int) then (if x13 < ((rd_L1 x4 x12).length : Int) then (if x12 < (x11.length : Int) then (if rdOf false x11 x12 = true then (dropperref08_Table.l4 k x3 x4 x9 x10 (x11.set (x12 : Int).toNat true) x12 (wrap64 (x13 + 1))) else (if 0 ≤ x13 then (if 0 ≤ (rd (rd_L1 x4 x12) x13) then (if (rd (rd_L1 x4 x12) x13) < (x3.length : Int) then (dropperref08_Table.l4 k x3 x4 x9 x10 (x11.set (x12 : Int).toNat (rdOf false x3 (rd (rd_L1 x4 x12) x13))) x12 (wrap64 (x13 + 1))) else (none)) else (none)) else (none))) else (none)) else (if x10 = true then (dropperref08_Table.l3 k x3 x4 x9 true x11 (wrap64 (x12 + 1))) else (if x12 < (x11.length : Int) then (if x12 < (x3.length : Int) then (dropperref08_Table.l3 k x3 x4 x9 ((rdOf false x11 x12) != (rdOf false x3 x12)) x11 (wrap64 (x12 + 1))) else (none)) else (none)))) else (none)) else (none)
end
def dropperref08_Table.f (k : Nat) (l0 : List Int) : Option ((List (List Bool))) := (dropperref08_Count.f k l0).bind fun t601 => (if 0 ≤ t601 then (if (t601 : Int).toNat ≤ 281474976710656 then ((some (List.replicate (t601 : Int).toNat false : List Bool)).bind fun y602 => (if 0 ≤ (y602.length : Int) then (if ((y602.length : Int) : Int).toNat ≤ 11728124029610 then (dropperref08_Table.l0 k l0 y602 (List.replicate ((y602.length : Int) : Int).toNat []) 0) else (none)) else (none))) else (none)) else (none))
theorem dropperref08_Table.mono_l : ∀ k, (∀ y0 y1 y2 y3, LeO (dropperref08_Table.l0 k y0 y1 y2 y3) (dropperref08_Table.l0 (k + 1) y0 y1 y2 y3)) ∧ (∀ y0 y1 y2 y3 y4, LeO (dropperref08_Table.l1 k y0 y1 y2 y3 y4) (dropperref08_Table.l1 (k + 1) y0 y1 y2 y3 y4)) ∧ (∀ y0 y1 y2 y3, LeO (dropperref08_Table.l2 k y0 y1 y2 y3) (dropperref08_Table.l2 (k + 1) y0 y1 y2 y3)) ∧ (∀ y0 y1 y2 y3 y4 y5, LeO (dropperref08_Table.l3 k y0 y1 y2 y3 y4 y5) (dropperref08_Table.l3 (k + 1) y0 y1 y2 y3 y4 y5)) ∧ (∀ y0 y1 y2 y3 y4 y5 y6, LeO (dropperref08_Table.l4 k y0 y1 y2 y3 y4 y5 y6) (dropperref08_Table.l4 (k + 1) y0 y1 y2 y3 y4 y5 y6))
  | 0 => ⟨fun _ _ _ _ r h => by simp [dropperref08_Table.l0] at h, fun _ _ _ _ _ r h => by simp [dropperref08_Table.l1] at h, fun _ _ _ _ r h => by simp [dropperref08_Table.l2] at h, fun _ _ _ _ _ _ r h => by simp [dropperref08_Table.l3] at h, fun _ _ _ _ _ _ _ r h => by simp [dropperref08_Table.l4] at h⟩
  | k + 1 => by
    obtain ⟨ih0, ih1, ih2, ih3, ih4⟩ := dropperref08_Table.mono_l k
    refine ⟨?_, ?_, ?_, ?_, ?_⟩
    · intro y0 y1 y2 y3
      unfold dropperref08_Table.l0
      repeat' first
      | (with_reducible exact ih0 _ _ _ _)
      | (with_reducible exact ih1 _ _ _ _ _)
      | (with_reducible exact ih2 _ _ _ _)
      | (with_reducible exact ih3 _ _ _ _ _ _)
      | (with_reducible exact ih4 _ _ _ _ _ _ _)
      | (with_reducible exact dropperref08_Count.mono _ _)
      | (with_reducible exact dropperref08_number.mono _ _ _)
      | (with_reducible exact dropperref08_numbered.mono _ _ _)
      | (with_reducible exact dropperref08_tonight.mono _ _ _ _)
      | (with_reducible exact LeO.refl _)
      | (with_reducible exact LeO.none _)
      | (with_reducible refine LeO.ite ?_ ?_)
      | (with_reducible refine LeO.bind ?_ (fun _ => ?_))
      | exact ih0 _ _ _ _
      | exact ih1 _ _ _ _ _
      | exact ih2 _ _ _ _
      | exact ih3 _ _ _ _ _ _
      | exact ih4 _ _ _ _ _ _ _
      | exact dropperref08_Count.mono _ _
      | exact dropperref08_number.mono _ _ _
      | exact dropperref08_numbered.mono _ _ _
      | exact dropperref08_tonight.mono _ _ _ _
      | exact LeO.none _
      | refine LeO.ite ?_ ?_
      | refine LeO.bind ?_ (fun _ => ?_)
    · intro y0 y1 y2 y3 y4
      unfold dropperref08_Table.l1
      repeat' first
      | (with_reducible exact ih0 _ _ _ _)
      | (with_reducible exact ih1 _ _ _ _ _)
      | (with_reducible exact ih2 _ _ _ _)
      | (with_reducible exact ih3 _ _ _ _ _ _)
      | (with_reducible exact ih4 _ _ _ _ _ _ _)
      | (with_reducible exact dropperref08_Count.mono _ _)
      | (with_reducible exact dropperref08_number.mono _ _ _)
      | (with_reducible exact dropperref08_numbered.mono _ _ _)
      | (with_reducible exact dropperref08_tonight.mono _ _ _ _)
      | (with_reducible exact LeO.refl _)
      | (with_reducible exact LeO.none _)
      | (with_reducible refine LeO.ite ?_ ?_)
      | (with_reducible refine LeO.bind ?_ (fun _ => ?_))
      | exact ih0 _ _ _ _
      | exact ih1 _ _ _ _ _
      | exact ih2 _ _ _ _
      | exact ih3 _ _ _ _ _ _
      | exact ih4 _ _ _ _ _ _ _
      | exact dropperref08_Count.mono _ _
      | exact dropperref08_number.mono _ _ _
      | exact dropperref08_numbered.mono _ _ _
      | exact dropperref08_tonight.mono _ _ _ _
      | exact LeO.none _
      | refine LeO.ite ?_ ?_
      | refine LeO.bind ?_ (fun _ => ?_)
    · intro y0 y1 y2 y3
      unfold dropperref08_Table.l2
      repeat' first
      | (with_reducible exact ih0 _ _ _ _)
      | (with_reducible exact ih1 _ _ _ _ _)
      | (with_reducible exact ih2 _ _ _ _)
      | (with_reducible exact ih3 _ _ _ _ _ _)
      | (with_reducible exact ih4 _ _ _ _ _ _ _)
      | (with_reducible exact dropperref08_Count.mono _ _)
      | (with_reducible exact dropperref08_number.mono _ _ _)
      | (with_reducible exact dropperref08_numbered.mono _ _ _)
      | (with_reducible exact dropperref08_tonight.mono _ _ _ _)
      | (with_reducible exact LeO.refl _)
      | (with_reducible exact LeO.none _)
      | (with_reducible refine LeO.ite ?_ ?_)
      | (with_reducible refine LeO.bind ?_ (fun _ => ?_))
      | exact ih0 _ _ _ _
      | exact ih1 _ _ _ _ _
      | exact ih2 _ _ _ _
      | exact ih3 _ _ _ _ _ _
      | exact ih4 _ _ _ _ _ _ _
      | exact dropperref08_Count.mono _ _
      | exact dropperref08_number.mono _ _ _
      | exact dropperref08_numbered.mono _ _ _
      | exact dropperref08_tonight.mono _ _ _ _
      | exact LeO.none _
      | refine LeO.ite ?_ ?_
      | refine LeO.bind ?_ (fun _ => ?_)
    · intro y0 y1 y2 y3 y4 y5
      unfold dropperref08_Table.l3
      repeat' first
      | (with_reducible exact ih0 _ _ _ _)
      | (with_reducible exact ih1 _ _ _ _ _)
      | (with_reducible exact ih2 _ _ _ _)
      | (with_reducible exact ih3 _ _ _ _ _ _)
      | (with_reducible exact ih4 _ _ _ _ _ _ _)
      | (with_reducible exact dropperref08_Count.mono _ _)
      | (with_reducible exact dropperref08_number.mono _ _ _)
      | (with_reducible exact dropperref08_numbered.mono _ _ _)
      | (with_reducible exact dropperref08_tonight.mono _ _ _ _)
      | (with_reducible exact LeO.refl _)
      | (with_reducible exact LeO.none _)
      | (with_reducible refine LeO.ite ?_ ?_)
      | (with_reducible refine LeO.bind ?_ (fun _ => ?_))
      | exact ih0 _ _ _ _
      | exact ih1 _ _ _ _ _
      | exact ih2 _ _ _ _
      | exact ih3 _ _ _ _ _ _
      | exact ih4 _ _ _ _ _ _ _
      | exact dropperref08_Count.mono _ _
      | exact dropperref08_number.mono _ _ _
      | exact dropperref08_numbered.mono _ _ _
      | exact dropperref08_tonight.mono _ _ _ _
      | exact LeO.none _
      | refine LeO.ite ?_ ?_
      | refine LeO.bind ?_ (fun _ => ?_)
    · intro y0 y1 y2 y3 y4 y5 y6
      unfold dropperref08_Table.l4
      repeat' first
      | (with_reducible exact ih0 _ _ _ _)
      | (with_reducible exact ih1 _ _ _ _ _)
      | (with_reducible exact ih2 _ _ _ _)
      | (with_reducible exact ih3 _ _ _ _ _ _)
      | (with_reducible exact ih4 _ _ _ _ _ _ _)
      | (with_reducible exact dropperref08_Count.mono _ _)
      | (with_reducible exact dropperref08_number.mono _ _ _)
      | (with_reducible exact dropperref08_numbered.mono _ _ _)
      | (with_reducible exact dropperref08_tonight.mono _ _ _ _)
      | (with_reducible exact LeO.refl _)
      | (with_reducible exact LeO.none _)
      | (with_reducible refine LeO.ite ?_ ?_)
      | (with_reducible refine LeO.bind ?_ (fun _ => ?_))
      | exact ih0 _ _ _ _
      | exact ih1 _ _ _ _ _
      | exact ih2 _ _ _ _
      | exact ih3 _ _ _ _ _ _
      | exact ih4 _ _ _ _ _ _ _
      | exact dropperref08_Count.mono _ _
      | exact dropperref08_number.mono _ _ _
      | exact dropperref08_numbered.mono _ _ _
      | exact dropperref08_tonight.mono _ _ _ _
      | exact LeO.none _
      | refine LeO.ite ?_ ?_
      | refine LeO.bind ?_ (fun _ => ?_)
theorem dropperref08_Table.mono : ∀ a0 k, LeO (dropperref08_Table.f k a0) (dropperref08_Table.f (k + 1) a0) := by
  intro a0 k
  obtain ⟨ih0, ih1, ih2, ih3, ih4⟩ := dropperref08_Table.mono_l k
  unfold dropperref08_Table.f
  repeat' first
      | (with_reducible exact ih0 _ _ _ _)
      | (with_reducible exact ih1 _ _ _ _ _)
      | (with_reducible exact ih2 _ _ _ _)
      | (with_reducible exact ih3 _ _ _ _ _ _)
      | (with_reducible exact ih4 _ _ _ _ _ _ _)
      | (with_reducible exact dropperref08_Count.mono _ _)
      | (with_reducible exact dropperref08_number.mono _ _ _)
      | (with_reducible exact dropperref08_numbered.mono _ _ _)
      | (with_reducible exact dropperref08_tonight.mono _ _ _ _)
      | (with_reducible exact LeO.refl _)
      | (with_reducible exact LeO.none _)
      | (with_reducible refine LeO.ite ?_ ?_)
      | (with_reducible refine LeO.bind ?_ (fun _ => ?_))
      | exact ih0 _ _ _ _
      | exact ih1 _ _ _ _ _
      | exact ih2 _ _ _ _
      | exact ih3 _ _ _ _ _ _
      | exact ih4 _ _ _ _ _ _ _
      | exact dropperref08_Count.mono _ _
      | exact dropperref08_number.mono _ _ _
      | exact dropperref08_numbered.mono _ _ _
      | exact dropperref08_tonight.mono _ _ _ _
      | exact LeO.none _
      | refine LeO.ite ?_ ?_
      | refine LeO.bind ?_ (fun _ => ?_)
def dropperref08_Table.T12 : Bool × List (List Nat × List Nat) := (true, [([], []), ([], []), ([], []), ([], []), ([2, 3], [2, 3]), ([4], [4]), ([], []), ([], []), ([6, 7], [6, 7]), ([8], [8]), ([5, 9, 8], [5, 9]), ([0, 1, 0, 1, 2, 3, 4, 5, 6, 7, 8, 9, 10], [0, 1]), ([11, 10, 10, 0, 1, 2, 3, 4, 5, 6, 7, 8, 9, 10], [10, 11])])
def dropperref08_Table.B12 : List Nat := [0, 0, 0, 0, 12, 28, 0, 0, 192, 448, 1020, 2047, 4095]
theorem dropperref08_Table.tab12 : rtab .any (opsOf Try.f55 12) = dropperref08_Table.T12 := by kernel_rfl
theorem dropperref08_Table.bits12 : waitsOk dropperref08_Table.T12.2 dropperref08_Table.B12 = true := by kernel_rfl
def dropperref08_Table.T25 : Bool × List (List Nat × List Nat) := (true, [([], []), ([0], [0]), ([1], [1]), ([1], [1]), ([2, 3, 1], [1, 2, 3]), ([4, 1], [1, 4]), ([1], [1]), ([1], [1]), ([6, 7, 1], [1, 6, 7]), ([8, 1], [1, 8]), ([5, 9, 1], [1, 5, 9]), ([1, 10], [1, 10]), ([11, 1, 0, 1, 2, 3, 4, 5, 6, 7, 8, 9, 10, 11], [0, 11])])
def dropperref08_Table.B25 : List Nat := [0, 1, 3, 3, 15, 31, 3, 3, 195, 451, 1023, 2047, 4095]
theorem dropperref08_Table.tab25 : rtab .any (opsOf Try.f55 25) = dropperref08_Table.T25 := by kernel_rfl
theorem dropperref08_Table.bits25 : waitsOk dropperref08_Table.T25.2 dropperref08_Table.B25 = true := by kernel_rfl
set_option maxHeartbeats 8000000 in
set_option maxRecDepth 100000 in
theorem dropperref08_Table.calls (k : Nat) (A0 : Option Addr) (c0 : Nat) (l0 : List Int) (r : List (List Bool)) (w : World) (hr0 : Kd.C (Kd.int .i64) w A0 l0.length l0) (hc0 : l0.length ≤ c0) (h : dropperref08_Table.f k l0 = some r) :
    Calls Try.prog 55 #[.slice A0 l0.length c0] w fun e w' => ∃ v0_ : Value, e = .returned (v0_) ∧ Kd.N (Kd.slice 4 Kd.bool) 56 w' w.heap.size (fun k_ => (w.heap.size ≤ k_)) v0_ r ∧ Below w.heap.size w w' := by
  have HR0 := Aside0.mk hr0
  have HC0 := Aside0.mk hc0
  clear hr0 hc0
  have HB := Aside0.mk (Below.refl w.heap.size w)
  have H : ((dropperref08_Count.f k l0).bind fun t601 => (if 0 ≤ t601 then (if (t601 : Int).toNat ≤ 281474976710656 then ((some (List.replicate (t601 : Int).toNat false : List Bool)).bind fun y602 => (if 0 ≤ (y602.length : Int) then (if ((y602.length : Int) : Int).toNat ≤ 11728124029610 then (dropperref08_Table.l0 k l0 y602 (List.replicate ((y602.length : Int) : Int).toNat []) 0) else (none)) else (none))) else (none)) else (none))) = some r := h
  clear h
  replace H := Option.bind_eq_some_iff.mp H
  obtain ⟨t601, A20, H⟩ := H
  replace H : (if 0 ≤ t601 then (if (t601 : Int).toNat ≤ 281474976710656 then ((some (List.replicate (t601 : Int).toNat false : List Bool)).bind fun y602 => (if 0 ≤ (y602.length : Int) then (if ((y602.length : Int) : Int).toNat ≤ 11728124029610 then (dropperref08_Table.l0 k l0 y602 (List.replicate ((y602.length : Int) : Int).toNat []) 0) else (none)) else (none))) else (none)) else (none)) = some r := H
  have A2 := Aside0.mk A20
  clear A20
  by_cases c3 : 0 ≤ t601
  rotate_left
  · rw [if_neg c3] at H
    exact absurd H (by simp)

  rw [if_pos c3] at H
  have c3b0 := eq_true c3
  have c3b1 : decide (0 ≤ t601) = true := decide_eq_true c3
  clear c3
  by_cases c4 : (t601 : Int).toNat ≤ 281474976710656
  rotate_left
  · rw [if_neg c4] at H
    exact absurd H (by simp)
  rw [if_pos c4] at H
  have c4b0 := eq_true c4
  have c4b1 : decide ((t601 : Int).toNat ≤ 281474976710656) = true := decide_eq_true c4
  clear c4
  obtain ⟨y602, hy602⟩ : ∃ y_ : List Bool, y_ = (List.replicate (t601 : Int).toNat false) := ⟨_, rfl⟩
  replace H : (if 0 ≤ (y602.length : Int) then (if ((y602.length : Int) : Int).toNat ≤ 11728124029610 then (dropperref08_Table.l0 k l0 y602 (List.replicate ((y602.length : Int) : Int).toNat []) 0) else (none)) else (none)) = some r := by first | (rw [hy602]; with_reducible exact H) | (have H2_ := (Option.bind_some _ _).symm.trans H; rw [hy602]; with_reducible exact H2_) | (have H2_ := (Option.bind_some _ _).symm.trans H; with_reducible exact H2_) | with_reducible exact H | (rw [hy602]; exact H) | exact H
  have Ny602 := Aside0.mk hy602
  clear hy602
  by_cases c5 : 0 ≤ (y602.length : Int)
  rotate_left
  · rw [if_neg c5] at H
    exact absurd H (by simp)
  rw [if_pos c5] at H
  have c5b0 := eq_true c5
  have c5b1 : decide (0 ≤ (y602.length : Int)) = true := decide_eq_true c5
  clear c5
  by_cases c6 : ((y602.length : Int) : Int).toNat ≤ 11728124029610
  rotate_left
  · rw [if_neg c6] at H
    exact absurd H (by simp)
  rw [if_pos c6] at H
  have c6b0 := eq_true c6
  have c6b1 : decide (((y602.length : Int) : Int).toNat ≤ 11728124029610) = true := decide_eq_true c6
  clear c6
  obtain ⟨y605, hy605⟩ : ∃ y_ : List (List Int), y_ = (List.replicate ((y602.length : Int) : Int).toNat []) := ⟨_, rfl⟩
  replace H : (dropperref08_Table.l0 k l0 y602 y605 0) = some r := by first | (rw [hy605]; with_reducible exact H) | (have H2_ := (Option.bind_some _ _).symm.trans H; rw [hy605]; with_reducible exact H2_) | (have H2_ := (Option.bind_some _ _).symm.trans H; with_reducible exact H2_) | with_reducible exact H | (rw [hy605]; exact H) | exact H
  have Ny605 := Aside0.mk hy605
  clear hy605
  have H' := Aside0.mk H
  clear H
  go_enter Try.func55, Try.ntmps55
  go_wp2_with (first | ((with_reducible refine gate_callee (f := 42) rfl ?_); refine goesL_ (some 15) rfl rfl Try.func42 (by kernel_rfl) rfl #[.slice A0 l0.length c0] rfl (by (try simp only [List.map_toArray, List.map_cons, List.map_nil]); first | done | rfl | (simp only [List.length_drop, List.length_take]; rfl)) ?_; (with_reducible refine (dropperref08_Count.calls k _ _ l0 t601 _ ?side1 ?side2 A2.out).mono ?_); (case side1 => repeat (first | exact HR0.out | (with_reducible refine Kd.C_alloc ?_ _) | (with_reducible refine Kd.C_drewN ?_ _) | (with_reducible refine Kd.C_drew ?_))); (case side2 => exact HC0.out); rintro e w' ⟨rfl, ⟨nd, rfl⟩⟩; refine ⟨_, rfl, ?_⟩) | ((with_reducible refine gate_dst (N := 16) rfl ?_); refine Kd.R_make Kd.bool _ 4 rfl (N := 16) rfl 56 _ _ rfl t601 rfl rfl Try.underlying56 (.bool false) 1 info4 rfl (by decide) (by omega) false (ok := fun _ => True) (okp := fun _ => True) rfl (fun _ hk => hk) trivial (of_decide_eq_true (by first | (with_reducible assumption) | assumption)) (Nat.le_trans (Nat.mul_le_mul_right _ (of_decide_eq_true (by first | (with_reducible assumption) | assumption) : t601.toNat ≤ 281474976710656)) (by omega)) (Below.refl _ _) (Nat.le_refl _) ?_; intro v603 w7 ho8 hb hg_ hnew_; clear hg_ hnew_; (first | rw [← Ny602.out] at ho8 | (simp only [Int.reduceToNat] at ho8; rw [← Ny602.out] at ho8)); have n0_ := Aside0.mk (Kd.R_lower (Kd.R_newM (M := fun k_ => (w.heap.size ≤ k_)) ho8 (below_size (by repeat (first | (with_reducible first | exact HB.out | apply below_alloc | apply pw_below_drewN | apply below_drew1) | exact HB.out))) (fun k_ h_ => h_)) (below_size (by repeat (first | (with_reducible first | exact HB.out | apply below_alloc | apply pw_below_drewN | apply below_drew1) | exact HB.out)))); have n1_ := Aside0.mk (below_step (by repeat (first | (with_reducible first | exact HB.out | apply below_alloc | apply pw_below_drewN | apply below_drew1) | exact HB.out)) hb); clear HB; have HO604 := n0_; have HB := n1_; clear n0_ n1_; clear hb ho8; obtain ⟨Ao9, co9, eo9⟩ := Kd.R_slice HO604.out; subst eo9) | ((with_reducible refine gate_dst (N := 19) rfl ?_); refine Kd.S_make (Kd.slice 3 (Kd.int .i64)) _ 22 rfl (N := 19) rfl 50 _ _ rfl (y602.length : Int) rfl rfl Try.underlying50 (.slice none 0 0) 24 info22 rfl (by decide) (by omega) [] (ok := fun _ => True) (okp := fun _ => True) ⟨_, rfl, Kd.R_nil _ _ _ _ _⟩ (fun _ hk => hk) trivial (of_decide_eq_true (by first | (with_reducible assumption) | assumption)) (Nat.le_trans (Nat.mul_le_mul_right _ (of_decide_eq_true (by first | (with_reducible assumption) | assumption) : (y602.length : Int).toNat ≤ 11728124029610)) (by omega)) (Below.refl _ _) (Nat.le_refl _) ?_; intro v606 w10 ho11 hb hg_ hnew_; clear hg_ hnew_; (first | rw [← Ny605.out] at ho11 | (simp only [Int.reduceToNat] at ho11; rw [← Ny605.out] at ho11)); have n0_ := Aside0.mk (Kd.R_below (by (with_reducible repeat (first | apply Kd.R_alloc | apply Kd.R_drewN | apply Kd.R_drew)); exact HO604.out) hb); have n1_ := Aside0.mk (Kd.S_lower (Kd.S_newM (M := fun k_ => (w.heap.size ≤ k_)) ho11 (below_size (by repeat (first | (with_reducible first | exact HB.out | apply below_alloc | apply pw_below_drewN | apply below_drew1) | exact HB.out))) (fun k_ h_ => h_)) (below_size (by repeat (first | (with_reducible first | exact HB.out | apply below_alloc | apply pw_below_drewN | apply below_drew1) | exact HB.out)))); have n2_ := Aside0.mk (below_step (by repeat (first | (with_reducible first | exact HB.out | apply below_alloc | apply pw_below_drewN | apply below_drew1) | exact HB.out)) hb); clear HO604; clear HB; have HO604 := n0_; have HO607 := n1_; have HB := n2_; clear n0_ n1_ n2_; clear hb ho11))
  go_loopg [5] k (fun kq v5 w' => ∃ (x3_1 : List Bool) (x4_1 : List (List Int)) (x5_1 : Int), v5 = .int .i64 x5_1 ∧ Aside0 (dropperref08_Table.l0 kq l0 x3_1 x4_1 x5_1 = some r) ∧ Aside0 (kq ≤ k) ∧ Aside0 (Kd.R Kd.bool 4 w' w.heap.size (fun k_ => (w.heap.size ≤ k_)) (.slice Ao9 y602.length co9) x3_1) ∧ Aside0 (Kd.S (Kd.slice 3 (Kd.int .i64)) 22 w' w.heap.size (fun k_ => (w.heap.size ≤ k_)) v606 x4_1) ∧ Aside0 (Below w.heap.size w w'))
  case atStart => exact ⟨(y602), (y605), (0), (by first | rfl | (simp; done) | (simp [*]; done)), H', ⟨Nat.le_refl _⟩, ⟨by (with_reducible repeat (first | apply Kd.R_alloc | apply Kd.R_drewN | apply Kd.R_drew)); exact Kd.R_mono HO604.out (fun _ hk => hk.1)⟩, ⟨by (with_reducible repeat (first | apply Kd.S_alloc | apply Kd.S_drewN | apply Kd.S_drew)); exact Kd.S_mono HO607.out (fun _ hk => hk.1)⟩, ⟨by repeat (first | (with_reducible first | exact HB.out | apply below_alloc | apply pw_below_drewN | apply below_drew1) | exact HB.out)⟩⟩
  case round =>
    clear H'
    try clear p2
    try clear c3
    try clear c3b0
    try clear c3b1
    try clear c4
    try clear c4b0
    try clear c4b1
    try clear c5
    try clear c5b0
    try clear c5b1
    try clear c6
    try clear c6b0
    try clear c6b1
    obtain ⟨x3_1, x4_1, x5_1, rfl, HA, HK1, HO_3, HO_4, HB⟩ := hrel
    have hl3_1 := (Kd.R_reads' HO_3.out).1
    rw [hl3_1] at HO_3
    (try simp only [hl3_1])
    (try simp only [hl3_1] at HO_4)
    cases gk with
    | zero => exact absurd HA.out (by simp [dropperref08_Table.l0])
    | succ k1 =>
      have H := HA.out
      clear HA
      simp only [dropperref08_Table.l0] at H
      by_cases c12 : x5_1 < (x3_1.length : Int)
      · rw [if_pos c12] at H
        have c12b0 : decide (x5_1 < (x3_1.length : Int)) = true := decide_eq_true c12
        (try (have c12b0h := c12b0; simp only [hl3_1] at c12b0h))
        clear c12
        by_cases c13 : 0 ≤ x5_1
        rotate_left
        · rw [if_neg c13] at H
          exact absurd H (by simp)
        rw [if_pos c13] at H
        have c13b0 : decide (0 ≤ x5_1) = true := decide_eq_true c13
        clear c13
        obtain ⟨y608, hy608⟩ : ∃ y_ : List Bool, y_ = (x3_1.set (x5_1 : Int).toNat true) := ⟨_, rfl⟩
        replace H : (dropperref08_Table.l1 k1 l0 y608 x4_1 x5_1 (-1)) = some r := by first | (rw [hy608]; with_reducible exact H) | (have H2_ := (Option.bind_some _ _).symm.trans H; rw [hy608]; with_reducible exact H2_) | (have H2_ := (Option.bind_some _ _).symm.trans H; with_reducible exact H2_) | with_reducible exact H | (rw [hy608]; exact H) | exact H
        have Ny608 := Aside0.mk hy608
        clear hy608
        have H' := Aside0.mk H
        clear H
        have p14 : 0 ≤ (x5_1 : Int) := of_decide_eq_true (by first | (with_reducible assumption) | assumption)
        have q14 : (x5_1 : Int) < ((x3_1.length : Int) : Int) := of_decide_eq_true (by first | (with_reducible assumption) | assumption)
        obtain ⟨go14, co14, eo14, gb14, gl14, cl14, HG14⟩ := Kd.R_form HO_3.out (by omega)
        (first | cases eo14 | (injection eo14 with ea_ en_ ec_; (first | subst ea_ | (injection ea_ with ea_; subst ea_)); subst ec_; clear en_))
        have GB14 := Aside0.mk gb14
        have GG14 := Aside0.mk HG14
        clear gb14 gl14 HG14
        obtain ⟨hx14_0, hf14_0⟩ := Kd.R_celln false HO_3.out (x5_1 : Int) p14 q14
        replace p14 := eq_true p14
        replace q14 := eq_true q14
        have HP15 := Kd.R_putg HO_3.out (x5_1 : Int) true
        go_wp2_with (first | ((with_reducible refine gate_store (t := 4) (p := 28) rfl ?_); refine store_event (t := 4) (p := 28) (v := ?vo_w16) (w1 := (wr.setCell ⟨go14, (x5_1 : Int).toNat, none⟩ (.bool true))) ?hg ?ho ?hn ?hr ?_; (case ho => rfl); (case hg => rfl); (case hn => rfl); (case hr => first | (go_simp; done) | (go_simp; rfl)); intro w16 hw; have hg : wr.grownBy w16 (some go14) := (by rw [hw]; exact HP15.2); have hp_ : Kd.R Kd.bool 4 w16 w.heap.size (fun k_ => (w.heap.size ≤ k_)) (.slice (some ⟨go14, 0, none⟩) x3_1.length co9) y608 := (by rw [hw, Ny608.out]; exact HP15.1); clear HP15; have n0_ := Aside0.mk (hp_); have n1_ := Aside0.mk (Kd.S_over' (v := (.slice (some ⟨go14, 0, none⟩) x3_1.length co9)) (by (with_reducible repeat (first | apply Kd.S_alloc | apply Kd.S_drewN | apply Kd.S_drew)); exact HO_4.out) (Kd.R_typed HO_3.out) (by decide) hg); have n2_ := Aside0.mk ((by rw [hw]; exact below_set (HB.out) GB14.out : Below w.heap.size w w16)); clear HO_3; clear HO_4; clear HB; have HO_3 := n0_; have HO_4 := n1_; have HB := n2_; clear n0_ n1_ n2_; clear hg hw hp_))
        go_loopg [6] k1 (fun kq v6 w' => ∃ (x4_2 : List (List Int)) (x6_2 : Int), v6 = .int .i64 x6_2 ∧ Aside0 (dropperref08_Table.l1 kq l0 y608 x4_2 x5_1 x6_2 = some r) ∧ Aside0 (kq ≤ k1) ∧ Aside0 (Kd.R Kd.bool 4 w' w.heap.size (fun k_ => (w.heap.size ≤ k_)) (.slice (some ⟨go14, 0, none⟩) x3_1.length co9) y608) ∧ Aside0 (Kd.S (Kd.slice 3 (Kd.int .i64)) 22 w' w.heap.size (fun k_ => (w.heap.size ≤ k_)) v606 x4_2) ∧ Aside0 (Below w.heap.size w w'))
        case atStart => exact ⟨(x4_1), ((-1)), (by first | rfl | (simp; done) | (simp [*]; done)), H', ⟨Nat.le_refl _⟩, ⟨by (try simp only [hl3_1]); (with_reducible repeat (first | apply Kd.R_alloc | apply Kd.R_drewN | apply Kd.R_drew)); exact HO_3.out⟩, ⟨by (try simp only [hl3_1]); (with_reducible repeat (first | apply Kd.S_alloc | apply Kd.S_drewN | apply Kd.S_drew)); exact HO_4.out⟩, ⟨by repeat (first | (with_reducible first | exact HB.out | apply below_alloc | apply pw_below_drewN | apply below_drew1) | exact HB.out)⟩⟩
        case round =>
          clear H'
          try clear c1
          try clear p1
          try clear q1
          try clear hx1
          try clear hf1
          try clear p2
          try clear c3
          try clear c3b0
          try clear c3b1
          try clear c4
          try clear c4b0
          try clear c4b1
          try clear c5
          try clear c5b0
          try clear c5b1
          try clear c6
          try clear c6b0
          try clear c6b1
          try clear c12
          try clear c12b0
          try clear c13
          try clear c13b0
          try clear p14
          try clear q14
          try clear hx14
          try clear hf14
          try clear hx14_0
          try clear p14
          try clear p2
          try clear q14
          obtain ⟨x4_2, x6_2, rfl, HA, HK2, HO_3, HO_4, HB⟩ := hrel
          have hl3_2 := (Kd.R_reads' HO_3.out).1
          rw [hl3_2] at HO_3
          (try simp only [hl3_2])
          (try simp only [hl3_2] at HO_4)
          cases gk with
          | zero => exact absurd HA.out (by simp [dropperref08_Table.l1])
          | succ k2 =>
            have H := HA.out
            clear HA
            simp only [dropperref08_Table.l1] at H
            by_cases c17 : x6_2 < (l0.length : Int)
            rotate_left
            · rw [if_neg c17] at H
              have c17b0 : decide (x6_2 < (l0.length : Int)) = false := decide_eq_false c17
              (try (have c17b0h := c17b0; simp only [hl3_1, hl3_2] at c17b0h))
              clear c17
              have H' := Aside0.mk H
              clear H
              go_wp2
              (try simp only [← hl3_1, ← hl3_2])
              go_roundg k2
              case measure => have := HK1.out; have := HK2.out; omega
              case rel => exact ⟨(y608), (x4_2), (wrap64 (x5_1 + 1)), (by first | rfl | (simp; done) | (simp [*]; done)), H', ⟨by have := HK1.out; have := HK2.out; omega⟩, ⟨by (try simp only [hl3_1]); (try simp only [hl3_2]); (with_reducible repeat (first | apply Kd.R_alloc | apply Kd.R_drewN | apply Kd.R_drew)); exact HO_3.out⟩, ⟨by (try simp only [hl3_1]); (try simp only [hl3_2]); (with_reducible repeat (first | apply Kd.S_alloc | apply Kd.S_drewN | apply Kd.S_drew)); exact HO_4.out⟩, ⟨by repeat (first | (with_reducible first | exact HB.out | apply below_alloc | apply pw_below_drewN | apply below_drew1) | exact HB.out)⟩⟩
            rw [if_pos c17] at H
            have c17b0 : decide (x6_2 < (l0.length : Int)) = true := decide_eq_true c17
            (try (have c17b0h := c17b0; simp only [hl3_1, hl3_2] at c17b0h))
            clear c17
            replace H := Option.bind_eq_some_iff.mp H
            obtain ⟨t609, A180, H⟩ := H
            replace H : ((dropperref08_tonight.f k2 l0 t609 x6_2).bind fun bt612 => (if bt612.2 = true then (if 0 ≤ x5_1 then (if x5_1 < (x4_2.length : Int) then ((dropperref08_number.f k2 l0 bt612.1).bind fun t617 => (if (rd_L1 x4_2 x5_1).length < 17592186044416 then (dropperref08_Table.l1 k2 l0 y608 (x4_2.set (x5_1 : Int).toNat ((rd_L1 x4_2 x5_1) ++ [t617])) x5_1 (wrap64 (x6_2 + 1))) else (none))) else (none)) else (none)) else (dropperref08_Table.l1 k2 l0 y608 x4_2 x5_1 (wrap64 (x6_2 + 1))))) = some r := H
            have A18 := Aside0.mk A180
            clear A180
            replace H := Option.bind_eq_some_iff.mp H
            obtain ⟨⟨t612, t613⟩, A190, H⟩ := H
            replace H : (if t613 = true then (if 0 ≤ x5_1 then (if x5_1 < (x4_2.length : Int) then ((dropperref08_number.f k2 l0 t612).bind fun t617 => (if (rd_L1 x4_2 x5_1).length < 17592186044416 then (dropperref08_Table.l1 k2 l0 y608 (x4_2.set (x5_1 : Int).toNat ((rd_L1 x4_2 x5_1) ++ [t617])) x5_1 (wrap64 (x6_2 + 1))) else (none))) else (none)) else (none)) else (dropperref08_Table.l1 k2 l0 y608 x4_2 x5_1 (wrap64 (x6_2 + 1)))) = some r := H
            have A19 := Aside0.mk A190
            clear A190
            by_cases c20 : t613 = true
            rotate_left
            · replace c20 := Bool.eq_false_iff.mpr c20
              subst c20
              have H1 : (dropperref08_Table.l1 k2 l0 y608 x4_2 x5_1 (wrap64 (x6_2 + 1))) = some r := by rw [if_neg (show ¬ (false = true) by decide)] at H; exact H
              clear H
              have H := H1
              clear H1
              have H' := Aside0.mk H
              clear H
              go_wp2_with (first | ((with_reducible refine gate_callee (f := 81) rfl ?_); refine goesL_ (some 39) rfl rfl Try.func81 (by kernel_rfl) rfl #[.slice A0 l0.length c0, .int .i64 x5_1] rfl (by (try simp only [List.map_toArray, List.map_cons, List.map_nil]); first | done | rfl | (simp only [List.length_drop, List.length_take]; rfl)) ?_; (with_reducible refine (dropperref08_numbered.calls k2 _ _ l0 x5_1 t609 _ ?side1 ?side2 A18.out).mono ?_); (case side1 => repeat (first | exact (Kd.C_below HR0.out HB.out) | (with_reducible refine Kd.C_alloc ?_ _) | (with_reducible refine Kd.C_drewN ?_ _) | (with_reducible refine Kd.C_drew ?_))); (case side2 => exact HC0.out); rintro e w37 ⟨v610, rfl, ho0, hb⟩; refine ⟨_, rfl, ?_⟩; have n0_ := Aside0.mk (Kd.R_below (by (with_reducible repeat (first | apply Kd.R_alloc | apply Kd.R_drewN | apply Kd.R_drew)); exact HO_3.out) hb); have n1_ := Aside0.mk (Kd.S_elder' (by (with_reducible repeat (first | apply Kd.S_alloc | apply Kd.S_drewN | apply Kd.S_drew)); exact HO_4.out) (Kd.R_base ho0) hb); have n2_ := Aside0.mk (Kd.R_lower (Kd.R_newM (M := fun k_ => (w.heap.size ≤ k_)) ho0 (below_size (by repeat (first | (with_reducible first | exact HB.out | apply below_alloc | apply pw_below_drewN | apply below_drew1) | exact HB.out))) (fun k_ h_ => h_)) (below_size (by repeat (first | (with_reducible first | exact HB.out | apply below_alloc | apply pw_below_drewN | apply below_drew1) | exact HB.out)))); have n3_ := Aside0.mk (below_step (by repeat (first | (with_reducible first | exact HB.out | apply below_alloc | apply pw_below_drewN | apply below_drew1) | exact HB.out)) hb); clear HO_3; clear HO_4; clear HB; have HO_3 := n0_; have HO_4 := n1_; have HO611 := n2_; have HB := n3_; clear n0_ n1_ n2_ n3_; (try clear hb); (try clear hb2); (try clear hk); (try clear hi); (try clear ho0); obtain ⟨Ao38, co38, eo38⟩ := Kd.R_slice HO611.out; subst eo38) | ((with_reducible refine gate_callee (f := 63) rfl ?_); refine goesL_ (some 41) rfl rfl Try.func63 (by kernel_rfl) rfl #[.slice A0 l0.length c0, .slice Ao38 t609.length co38, .int .i64 x6_2] rfl (by (try simp only [List.map_toArray, List.map_cons, List.map_nil]); first | done | rfl | (simp only [List.length_drop, List.length_take]; rfl)) ?_; (with_reducible refine (dropperref08_tonight.calls k2 _ _ l0 _ _ t609 x6_2 t612 false _ ?side1 ?side2 ?side3 ?side4 A19.out).mono ?_); (case side1 => repeat (first | exact (Kd.C_below HR0.out HB.out) | (with_reducible refine Kd.C_alloc ?_ _) | (with_reducible refine Kd.C_drewN ?_ _) | (with_reducible refine Kd.C_drew ?_))); (case side2 => exact HC0.out); (case side3 => repeat (first | exact (Kd.R_reads' HO611.out).2.2 | (with_reducible refine Kd.C_alloc ?_ _) | (with_reducible refine Kd.C_drewN ?_ _) | (with_reducible refine Kd.C_drew ?_))); (case side4 => exact (Kd.R_reads' HO611.out).2.1); rintro e w39 ⟨v614, rfl, ho0, hb⟩; refine ⟨_, rfl, ?_⟩; have n0_ := Aside0.mk (Kd.R_below (by (with_reducible repeat (first | apply Kd.R_alloc | apply Kd.R_drewN | apply Kd.R_drew)); exact HO_3.out) hb); have n1_ := Aside0.mk (Kd.S_elder' (by (with_reducible repeat (first | apply Kd.S_alloc | apply Kd.S_drewN | apply Kd.S_drew)); exact HO_4.out) (Kd.R_base ho0) hb); have n2_ := Aside0.mk (Kd.R_elder' (by (with_reducible repeat (first | apply Kd.R_alloc | apply Kd.R_drewN | apply Kd.R_drew)); exact HO611.out) (Kd.R_base ho0) hb); have n3_ := Aside0.mk (Kd.R_lower (Kd.R_new' (Kd.R_newM (M := fun k_ => (w.heap.size ≤ k_)) ho0 (below_size (by repeat (first | (with_reducible first | exact HB.out | apply below_alloc | apply pw_below_drewN | apply below_drew1) | exact HB.out))) (fun k_ h_ => h_)) (Kd.R_lt (by (with_reducible repeat (first | apply Kd.R_alloc | apply Kd.R_drewN | apply Kd.R_drew)); exact HO611.out))) (below_size (by repeat (first | (with_reducible first | exact HB.out | apply below_alloc | apply pw_below_drewN | apply below_drew1) | exact HB.out)))); have n4_ := Aside0.mk (below_step (by repeat (first | (with_reducible first | exact HB.out | apply below_alloc | apply pw_below_drewN | apply below_drew1) | exact HB.out)) hb); clear HO_3; clear HO_4; clear HO611; clear HB; have HO_3 := n0_; have HO_4 := n1_; have HO611 := n2_; have HO615 := n3_; have HB := n4_; clear n0_ n1_ n2_ n3_ n4_; (try clear hb); (try clear hb2); (try clear hk); (try clear hi); (try clear ho0)))
              (try simp only [← hl3_2])
              go_roundg k2
              case measure => have := HK1.out; have := HK2.out; omega
              case rel => exact ⟨(x4_2), (wrap64 (x6_2 + 1)), (by first | rfl | (simp; done) | (simp [*]; done)), H', ⟨by have := HK1.out; have := HK2.out; omega⟩, ⟨by (try simp only [hl3_1]); (try simp only [hl3_2]); (with_reducible repeat (first | apply Kd.R_alloc | apply Kd.R_drewN | apply Kd.R_drew)); exact HO_3.out⟩, ⟨by (try simp only [hl3_1]); (try simp only [hl3_2]); (with_reducible repeat (first | apply Kd.S_alloc | apply Kd.S_drewN | apply Kd.S_drew)); exact Kd.S_mono HO_4.out (fun _ hk => hk.1.1)⟩, ⟨by repeat (first | (with_reducible first | exact HB.out | apply below_alloc | apply pw_below_drewN | apply below_drew1) | exact HB.out)⟩⟩
            subst c20
            have H1 : (if 0 ≤ x5_1 then (if x5_1 < (x4_2.length : Int) then ((dropperref08_number.f k2 l0 t612).bind fun t617 => (if (rd_L1 x4_2 x5_1).length < 17592186044416 then (dropperref08_Table.l1 k2 l0 y608 (x4_2.set (x5_1 : Int).toNat ((rd_L1 x4_2 x5_1) ++ [t617])) x5_1 (wrap64 (x6_2 + 1))) else (none))) else (none)) else (none)) = some r := by rw [if_pos rfl] at H; exact H
            clear H
            have H := H1
            clear H1
            by_cases c21 : 0 ≤ x5_1
            rotate_left
            · rw [if_neg c21] at H
              exact absurd H (by simp)
            rw [if_pos c21] at H
            have c21b0 : decide (0 ≤ x5_1) = true := decide_eq_true c21
            clear c21
            by_cases c22 : x5_1 < (x4_2.length : Int)
            rotate_left
            · rw [if_neg c22] at H
              exact absurd H (by simp)
            rw [if_pos c22] at H
            have c22b0 : decide (x5_1 < (x4_2.length : Int)) = true := decide_eq_true c22
            (try (have c22b0h := c22b0; simp only [hl3_1, hl3_2] at c22b0h))
            clear c22
            replace H := Option.bind_eq_some_iff.mp H
            obtain ⟨t617, A230, H⟩ := H
            replace H : (if (rd_L1 x4_2 x5_1).length < 17592186044416 then (dropperref08_Table.l1 k2 l0 y608 (x4_2.set (x5_1 : Int).toNat ((rd_L1 x4_2 x5_1) ++ [t617])) x5_1 (wrap64 (x6_2 + 1))) else (none)) = some r := H
            have A23 := Aside0.mk A230
            clear A230
            by_cases c24 : (rd_L1 x4_2 x5_1).length < 17592186044416
            rotate_left
            · rw [if_neg c24] at H
              exact absurd H (by simp)
            rw [if_pos c24] at H
            have LMc24 := Aside0.mk c24
            clear c24
            obtain ⟨y618, hy618⟩ : ∃ y_ : List Int, y_ = ((rd_L1 x4_2 x5_1) ++ [t617]) := ⟨_, rfl⟩
            replace H : (dropperref08_Table.l1 k2 l0 y608 (x4_2.set (x5_1 : Int).toNat y618) x5_1 (wrap64 (x6_2 + 1))) = some r := by first | (rw [hy618]; with_reducible exact H) | (have H2_ := (Option.bind_some _ _).symm.trans H; rw [hy618]; with_reducible exact H2_) | (have H2_ := (Option.bind_some _ _).symm.trans H; with_reducible exact H2_) | with_reducible exact H | (rw [hy618]; exact H) | exact H
            have Ny618 := Aside0.mk hy618
            clear hy618
            obtain ⟨y621, hy621⟩ : ∃ y_ : List (List Int), y_ = (x4_2.set (x5_1 : Int).toNat y618) := ⟨_, rfl⟩
            replace H : (dropperref08_Table.l1 k2 l0 y608 y621 x5_1 (wrap64 (x6_2 + 1))) = some r := by first | (rw [hy621]; with_reducible exact H) | (have H2_ := (Option.bind_some _ _).symm.trans H; rw [hy621]; with_reducible exact H2_) | (have H2_ := (Option.bind_some _ _).symm.trans H; with_reducible exact H2_) | with_reducible exact H | (rw [hy621]; exact H) | exact H
            have Ny621 := Aside0.mk hy621
            clear hy621
            have H' := Aside0.mk H
            clear H
            try go_wp2_with (first | ((with_reducible refine gate_callee (f := 81) rfl ?_); refine goesL_ (some 39) rfl rfl Try.func81 (by kernel_rfl) rfl #[.slice A0 l0.length c0, .int .i64 x5_1] rfl (by (try simp only [List.map_toArray, List.map_cons, List.map_nil]); first | done | rfl | (simp only [List.length_drop, List.length_take]; rfl)) ?_; (with_reducible refine (dropperref08_numbered.calls k2 _ _ l0 x5_1 t609 _ ?side1 ?side2 A18.out).mono ?_); (case side1 => repeat (first | exact (Kd.C_below HR0.out HB.out) | (with_reducible refine Kd.C_alloc ?_ _) | (with_reducible refine Kd.C_drewN ?_ _) | (with_reducible refine Kd.C_drew ?_))); (case side2 => exact HC0.out); rintro e w26 ⟨v610, rfl, ho0, hb⟩; refine ⟨_, rfl, ?_⟩; have n0_ := Aside0.mk (Kd.R_below (by (with_reducible repeat (first | apply Kd.R_alloc | apply Kd.R_drewN | apply Kd.R_drew)); exact HO_3.out) hb); have n1_ := Aside0.mk (Kd.S_elder' (by (with_reducible repeat (first | apply Kd.S_alloc | apply Kd.S_drewN | apply Kd.S_drew)); exact HO_4.out) (Kd.R_base ho0) hb); have n2_ := Aside0.mk (Kd.R_lower (Kd.R_newM (M := fun k_ => (w.heap.size ≤ k_)) ho0 (below_size (by repeat (first | (with_reducible first | exact HB.out | apply below_alloc | apply pw_below_drewN | apply below_drew1) | exact HB.out))) (fun k_ h_ => h_)) (below_size (by repeat (first | (with_reducible first | exact HB.out | apply below_alloc | apply pw_below_drewN | apply below_drew1) | exact HB.out)))); have n3_ := Aside0.mk (below_step (by repeat (first | (with_reducible first | exact HB.out | apply below_alloc | apply pw_below_drewN | apply below_drew1) | exact HB.out)) hb); clear HO_3; clear HO_4; clear HB; have HO_3 := n0_; have HO_4 := n1_; have HO611 := n2_; have HB := n3_; clear n0_ n1_ n2_ n3_; (try clear hb); (try clear hb2); (try clear hk); (try clear hi); (try clear ho0); obtain ⟨Ao27, co27, eo27⟩ := Kd.R_slice HO611.out; subst eo27) | ((with_reducible refine gate_callee (f := 63) rfl ?_); refine goesL_ (some 41) rfl rfl Try.func63 (by kernel_rfl) rfl #[.slice A0 l0.length c0, .slice Ao27 t609.length co27, .int .i64 x6_2] rfl (by (try simp only [List.map_toArray, List.map_cons, List.map_nil]); first | done | rfl | (simp only [List.length_drop, List.length_take]; rfl)) ?_; (with_reducible refine (dropperref08_tonight.calls k2 _ _ l0 _ _ t609 x6_2 t612 true _ ?side1 ?side2 ?side3 ?side4 A19.out).mono ?_); (case side1 => repeat (first | exact (Kd.C_below HR0.out HB.out) | (with_reducible refine Kd.C_alloc ?_ _) | (with_reducible refine Kd.C_drewN ?_ _) | (with_reducible refine Kd.C_drew ?_))); (case side2 => exact HC0.out); (case side3 => repeat (first | exact (Kd.R_reads' HO611.out).2.2 | (with_reducible refine Kd.C_alloc ?_ _) | (with_reducible refine Kd.C_drewN ?_ _) | (with_reducible refine Kd.C_drew ?_))); (case side4 => exact (Kd.R_reads' HO611.out).2.1); rintro e w28 ⟨v614, rfl, ho0, hb⟩; refine ⟨_, rfl, ?_⟩; have n0_ := Aside0.mk (Kd.R_below (by (with_reducible repeat (first | apply Kd.R_alloc | apply Kd.R_drewN | apply Kd.R_drew)); exact HO_3.out) hb); have n1_ := Aside0.mk (Kd.S_elder' (by (with_reducible repeat (first | apply Kd.S_alloc | apply Kd.S_drewN | apply Kd.S_drew)); exact HO_4.out) (Kd.R_base ho0) hb); have n2_ := Aside0.mk (Kd.R_elder' (by (with_reducible repeat (first | apply Kd.R_alloc | apply Kd.R_drewN | apply Kd.R_drew)); exact HO611.out) (Kd.R_base ho0) hb); have n3_ := Aside0.mk (Kd.R_lower (Kd.R_new' (Kd.R_newM (M := fun k_ => (w.heap.size ≤ k_)) ho0 (below_size (by repeat (first | (with_reducible first | exact HB.out | apply below_alloc | apply pw_below_drewN | apply below_drew1) | exact HB.out))) (fun k_ h_ => h_)) (Kd.R_lt (by (with_reducible repeat (first | apply Kd.R_alloc | apply Kd.R_drewN | apply Kd.R_drew)); exact HO611.out))) (below_size (by repeat (first | (with_reducible first | exact HB.out | apply below_alloc | apply pw_below_drewN | apply below_drew1) | exact HB.out)))); have n4_ := Aside0.mk (below_step (by repeat (first | (with_reducible first | exact HB.out | apply below_alloc | apply pw_below_drewN | apply below_drew1) | exact HB.out)) hb); clear HO_3; clear HO_4; clear HO611; clear HB; have HO_3 := n0_; have HO_4 := n1_; have HO611 := n2_; have HO615 := n3_; have HB := n4_; clear n0_ n1_ n2_ n3_ n4_; (try clear hb); (try clear hb2); (try clear hk); (try clear hi); (try clear ho0)))
            have n0_ := Aside0.mk (Kd.R_drew HO_3.out)
            have n1_ := Aside0.mk (Kd.S_drew HO_4.out)
            have n2_ := Aside0.mk (Kd.R_drew HO611.out)
            have n3_ := Aside0.mk (Kd.R_drew HO615.out)
            have n4_ := Aside0.mk (below_drew1 HB.out)
            clear HO_3
            clear HO_4
            clear HO611
            clear HO615
            clear HB
            have HO_3 := n0_
            have HO_4 := n1_
            have HO611 := n2_
            have HO615 := n3_
            have HB := n4_
            clear n0_ n1_ n2_ n3_ n4_
            obtain ⟨Ao30, co30, eo30⟩ := Kd.S_slice HO_4.out
            (first | subst eo30 | (injection eo30 with f1_ f2_ f3_; have f4_ := f1_.symm; have f5_ := f3_.symm; clear f1_ f2_ f3_; subst f4_; subst f5_))
            have p616 : 0 ≤ (x5_1 : Int) := of_decide_eq_true (by first | (with_reducible assumption) | assumption)
            have q616 : x5_1 < (x4_2.length : Int) := of_decide_eq_true (by first | (with_reducible assumption) | assumption)
            obtain ⟨ad616, A616_0, c616_0, e616, hx616_0, hl616_0, hi616_0⟩ := at_L1 (Kd.S_reads' HO_4.out).2.2 x5_1 p616 q616
            cases e616
            obtain ⟨ce616, hce616, hMe616, hcc616⟩ := Kd.S_get HO_4.out [] x5_1 p616 (by first | exact q616 | exact of_decide_eq_true (by first | (with_reducible assumption) | assumption) | (have e_ := (Kd.S_reads' HO_4.out).1; omega))
            obtain ⟨ve616_0, rfl, ge616_0⟩ := hMe616
            have hv616_0 := hcc616 0 _ rfl
            rw [Nat.add_zero, show ((Kd.slice 3 (Kd.int .i64))).sz = 1 from rfl, Nat.mul_one] at hv616_0
            replace hv616_0 := Option.some.inj (hv616_0.symm.trans hx616_0)
            rw [hv616_0] at ge616_0
            have HL616_0 := Aside0.mk (show Kd.R (Kd.int .i64) 3 _ _ _ _ (rd_L1 x4_2 x5_1) from ge616_0)
            clear hv616_0 ge616_0
            have HX616_0 := Aside0.mk hx616_0
            clear hcc616 hce616
            have HR616_0 := Aside0.mk hi616_0
            have HC616_0 := Aside0.mk hl616_0
            clear hi616_0 hl616_0
            replace p616 := eq_true p616
            replace q616 := eq_true q616
            obtain ⟨Ao31, co31, eo31⟩ := Kd.R_slice HO615.out
            (first | subst eo31 | (injection eo31 with f1_ f2_ f3_; have f4_ := f1_.symm; have f5_ := f3_.symm; clear f1_ f2_ f3_; subst f4_; subst f5_))
            refine start_ (n := 13) (S := fun w' => w'.cell? (ad616.add (x5_1).toNat) = some (.slice A616_0 (rd_L1 x4_2 x5_1).length c616_0)) (ds := [12]) (mkB 13 0) (by kernel_rfl) rfl rfl (hx616_0) (fun hHeld => ?_); refine with_tabW dropperref08_Table.tab12 dropperref08_Table.bits12 (fun HT_ HW_ => ?_)
            generalize w28.drew = w29 at HO_3 HO_4 HO611 HO615 HB HL616_0 HR616_0 HX616_0 hx616_0 hHeld ⊢
            refine pr_ 0 (some 45) (mkB 13 1) HT_ ?_
            refine pr_ 1 (some 46) (mkB 13 3) HT_ ?_
            refine pr_ 2 (some 47) (mkB 13 7) HT_ ?_
            refine pr_ 3 (some 48) (mkB 13 15) HT_ ?_
            refine pr_ 4 (some 49) (mkB 13 31) HT_ ?_
            refine pr_ 6 (some 51) (mkB 13 95) HT_ ?_
            refine pr_ 7 (some 52) (mkB 13 223) HT_ ?_
            refine take_ (i := 5) (N := some 50) (v := ?_) (a' := ?_) (mkB 13 255) rfl rfl (take_ofW HT_.out HW_.out (by kernel_rfl)) (fun _ _ _ h => h) (Or.inl ⟨by rfl, ?_⟩) hHeld ?_ ?_
            rotate_left
            · intro w' s0
              go_simp
              with_reducible rfl
            rotate_left
            · simp only [Act.put, List.setIfInBounds_toArray, List.set_cons_zero, List.set_cons_succ, i64_w, i32_w]
              rfl
            refine one_ (i := 8) (N := some 53) (mkB 13 511) rfl rfl (one_of HT_.out (by kernel_rfl)) (by decide) (fun K hK => ?_)
            refine goes_ Try.func62 (by kernel_rfl) rfl #[.slice A0 l0.length c0, .slice Ao31 t612.length co31] (by rfl) rfl rfl (by (try simp only [List.map_toArray, List.map_cons, List.map_nil]); first | done | rfl | (simp only [List.length_drop, List.length_take]; rfl)) ?_
            with_reducible refine (dropperref08_number.calls k2 _ _ l0 _ _ t612 t617 _ ?side1 ?side2 ?side3 ?side4 A23.out).mono ?_
            (case side1 => repeat (first | exact (Kd.C_below HR0.out HB.out) | (with_reducible refine Kd.C_alloc ?_ _) | (with_reducible refine Kd.C_drewN ?_ _) | (with_reducible refine Kd.C_drew ?_)))
            (case side2 => exact HC0.out)
            (case side3 => repeat (first | exact (Kd.R_reads' HO615.out).2.2 | (with_reducible refine Kd.C_alloc ?_ _) | (with_reducible refine Kd.C_drewN ?_ _) | (with_reducible refine Kd.C_drew ?_)))
            (case side4 => exact (Kd.R_reads' HO615.out).2.1)
            rintro e w' ⟨rfl, ⟨nd, rfl⟩⟩
            refine ⟨_, rfl, ?_⟩
            have n_ := Aside0.mk (Kd.S_mono (ok' := (fun k_ => (w.heap.size ≤ k_) ∧ some k_ ≠ (.slice Ao27 t609.length co27 : Value).ownBlock ∧ some k_ ≠ (.slice Ao31 t612.length co31 : Value).ownBlock)) HO_4.out (fun k_ hk => ⟨hk.1.1, ⟨hk.1.2, hk.2⟩⟩))
            clear HO_4
            have HO_4 := n_
            clear n_
            obtain ⟨go32, co32, eo32, gb32, gl32, cl32, HG32⟩ := Kd.S_form HO_4.out (by have h_ : (x5_1 : Int) < ((x4_2.length : Int) : Int) := of_decide_eq_true (by first | (with_reducible assumption) | assumption); have h2_ : 0 ≤ (x5_1 : Int) := (of_decide_eq_true (by first | (with_reducible assumption) | assumption)); omega)
            (first | cases eo32 | (injection eo32 with ea_ en_ ec_; (first | subst ea_ | (injection ea_ with ea_; subst ea_)); subst ec_; clear en_))
            have GB32 := Aside0.mk gb32
            have GG32 := Aside0.mk HG32
            clear gb32 gl32 HG32
            (first | simp only [add_plain] at hx616_0 | skip)
            obtain ⟨oki32, ce32, hcl32, hM32, hcc32, _, _, hH32⟩ := Kd.S_elem HO_4.out [] (x5_1 : Int) (of_decide_eq_true (by first | (with_reducible assumption) | assumption)) (by have h_ : (x5_1 : Int) < ((x4_2.length : Int) : Int) := of_decide_eq_true (by first | (with_reducible assumption) | assumption); first | exact h_ | (have e_ := (Kd.S_reads' HO_4.out).1; omega) | simpa using h_)
            obtain ⟨ve32_0, rfl, ge32_0⟩ := hM32
            have hv32 := hcc32 0 _ rfl
            have hX32 := HX616_0.out
            (try simp only [add_plain] at hX32)
            (try simp only [Nat.add_zero] at hv32)
            (try rw [show ((Kd.slice 3 (Kd.int .i64))).sz = 1 from rfl, Nat.mul_one] at hv32)
            replace hv32 := Option.some.inj (hv32.symm.trans hX32)
            subst hv32
            clear hX32 hcc32 hcl32
            have UU32 := Aside0.mk (show Kd.R (Kd.int .i64) 3 _ w.heap.size oki32 (.slice A616_0 (rd_L1 x4_2 x5_1).length c616_0) (rd_L1 x4_2 x5_1) from ge32_0)
            have HH32 := Aside0.mk hH32
            have HN32 := Aside0.mk (Kd.S_reads' HO_4.out).1
            clear hH32 ge32_0
            refine hK.out _ _ (hHeld) (fun hHeld => ?_)
            clear hK K
            refine norm_ (a' := ?_) ?_ ?_
            rotate_left
            · show Act.put _ (some 53) _ = _
              simp only [Act.put, List.setIfInBounds_toArray, List.set_cons_zero, List.set_cons_succ, i64_w, i32_w]
              rfl
            refine one_ (i := 9) (N := some 54) (mkB 13 1023) rfl rfl (one_of HT_.out (by kernel_rfl)) (by decide) (fun K hK => ?_)
            refine value_ (w1 := ?_) (v := ?_) (by rfl) rfl ?_ ?_
            rotate_left 2
            · go_simp
              constructor
              · rfl
              · rfl
            refine hK.out _ _ ((World.cell?_alloc_lt _ _ _ (World.block_lt_of_cell? _ _ (hHeld))).trans (hHeld)) (fun hHeld => ?_)
            clear hK K
            refine norm_ (a' := ?_) ?_ ?_
            rotate_left
            · show Act.put _ (some 54) _ = _
              simp only [Act.put, List.setIfInBounds_toArray, List.set_cons_zero, List.set_cons_succ, i64_w, i32_w]
              rfl
            refine one_ (i := 10) (N := some 55) (mkB 13 2047) rfl rfl (one_of HT_.out (by kernel_rfl)) (by decide) (fun K hK => ?_)
            refine Kd.R_append_step (Kd.int .i64) (w0 := w) w.heap.size (by rfl) (.tmp 50) (.tmp 54) 22 3 (.int .i64 0) 8 rfl Try.underlying22 info3 rfl (by decide) (by omega) (.slice A616_0 (rd_L1 x4_2 x5_1).length c616_0) (rd_L1 x4_2 x5_1) t617 [.int .i64 t617] (fun k_ => oki32 k_ ∨ ((fun k_ => (w.heap.size ≤ k_) ∧ some k_ ≠ (.slice Ao27 t609.length co27 : Value).ownBlock ∧ some k_ ≠ (.slice Ao31 t612.length co31 : Value).ownBlock)) k_ ∧ w29.heap.size ≤ k_) (fun _ => False) rfl rfl ?aP (fun _ hk => hk.elim) ?aF ?aO ?aB ?aS ?aL ?_
            (case aP => exact rfl)
            (case aB => exact (by repeat (first | (with_reducible first | exact HB.out | apply below_alloc | apply pw_below_drewN | apply below_drew1) | exact HB.out)))
            (case aF => exact (fun k_ hk => .inr ⟨⟨Nat.le_trans (below_size (by repeat (first | (with_reducible first | exact HB.out | apply below_alloc | apply pw_below_drewN | apply below_drew1) | exact HB.out))) hk, Kd.fresh' (Kd.R_lt (by (with_reducible repeat (first | apply Kd.R_alloc | apply Kd.R_drewN | apply Kd.R_drew)); exact HO611.out)) k_ hk, Kd.fresh' (Kd.R_lt (by (with_reducible repeat (first | apply Kd.R_alloc | apply Kd.R_drewN | apply Kd.R_drew)); exact HO615.out)) k_ hk⟩, hk⟩))
            (case aO => exact (by (with_reducible repeat (first | apply Kd.R_alloc | apply Kd.R_drewN | apply Kd.R_drew)); exact Kd.R_mono UU32.out (fun _ hk => .inl hk)))
            (case aS => exact (below_size (by repeat (first | (with_reducible first | exact HB.out | apply below_alloc | apply pw_below_drewN | apply below_drew1) | exact HB.out))))
            (case aL => have := LMc24.out; omega)
            intro v619 w33 ho hb hg hat
            (first | have HS0_ := cell_grown hg (hHeld) (by first | (rw [add_block]; exact (fun e_ => ((HL616_0.out.1 _ e_.symm).2) rfl)) | (show some (Addr.add _ _).block ≠ _; rw [add_block]; exact (fun e_ => ((HL616_0.out.1 _ e_.symm).2) rfl)) | exact (fun e_ => ((HL616_0.out.1 _ e_.symm).2) rfl)) | have HS0_ := cell_grown hg (cell_unalloc (hHeld) (by first | (rw [add_block]; exact Kd.S_lt HO_4.out _ rfl) | (show (Addr.add _ _).block < _; rw [add_block]; exact Kd.S_lt HO_4.out _ rfl) | exact Kd.S_lt HO_4.out _ rfl)) (by first | (rw [add_block]; exact (fun e_ => ((HL616_0.out.1 _ e_.symm).2) rfl)) | (show some (Addr.add _ _).block ≠ _; rw [add_block]; exact (fun e_ => ((HL616_0.out.1 _ e_.symm).2) rfl)) | exact (fun e_ => ((HL616_0.out.1 _ e_.symm).2) rfl)))
            rw [← Ny618.out] at ho
            have n0_ := Aside0.mk (Kd.R_over' (v := (.slice A616_0 (rd_L1 x4_2 x5_1).length c616_0)) (by (with_reducible repeat (first | apply Kd.R_alloc | apply Kd.R_drewN | apply Kd.R_drew)); exact HO_3.out) (Kd.R_typed (Kd.R_drewN HL616_0.out _)) (by decide) hg)
            have n1_ := Aside0.mk (Kd.R_grown2 (by (with_reducible repeat (first | apply Kd.R_alloc | apply Kd.R_drewN | apply Kd.R_drew)); exact HO611.out) rfl hg (fun k_ e_ => (HL616_0.out.1 k_ e_).1.1.2))
            have n2_ := Aside0.mk (Kd.R_grown2 (by (with_reducible repeat (first | apply Kd.R_alloc | apply Kd.R_drewN | apply Kd.R_drew)); exact HO615.out) rfl hg (fun k_ e_ => (HL616_0.out.1 k_ e_).1.2))
            have n3_ := Aside0.mk (hb)
            have n4_ := Aside0.mk (Kd.H_grown (Kd.H_widen (by repeat (first | exact HH32.out | refine Kd.H_alloc ?_ _ | refine Kd.H_drewN ?_ _ | refine Kd.H_drew ?_))) hg (fun k_ e_ => .inl (UU32.out.1 k_ e_)))
            have n5_ := Aside0.mk (ho)
            clear HO_3
            clear HO611
            clear HO615
            clear HB
            clear HH32
            clear HO_4
            clear UU32
            clear HL616_0
            have HO_3 := n0_
            have HO611 := n1_
            have HO615 := n2_
            have HB := n3_
            have HH32 := n4_
            have HO620 := n5_
            clear n0_ n1_ n2_ n3_ n4_ n5_
            clear ho hb hg hat
            have p25 : 0 ≤ (x5_1 : Int) := of_decide_eq_true (by first | (with_reducible assumption) | assumption)
            have q25 : (x5_1 : Int) < ((x4_2.length : Int) : Int) := of_decide_eq_true (by first | (with_reducible assumption) | assumption)
            replace p25 := eq_true p25
            replace q25 := eq_true q25
            obtain ⟨Ao36, co36, eo36⟩ := Kd.R_slice HO620.out
            (first | subst eo36 | (injection eo36 with f1_ f2_ f3_; have f4_ := f1_.symm; have f5_ := f3_.symm; clear f1_ f2_ f3_; subst f4_; subst f5_))
            obtain ⟨_, _, hraw34, _, _, hcc34, _⟩ := Kd.H_raw HH32.out (of_decide_eq_true (by first | (with_reducible assumption) | assumption)) (by have h_ : (x5_1 : Int) < ((x4_2.length : Int) : Int) := of_decide_eq_true (by first | (with_reducible assumption) | assumption); first | exact h_ | (have e_ := (HN32.out); omega) | simpa using h_)
            obtain ⟨_, hfr34⟩ := Kd.H_at HH32.out (of_decide_eq_true (by first | (with_reducible assumption) | assumption)) (by have h_ : (x5_1 : Int) < ((x4_2.length : Int) : Int) := of_decide_eq_true (by first | (with_reducible assumption) | assumption); first | exact h_ | (have e_ := (HN32.out); omega) | simpa using h_)
            have hx34_0 := hcc34 0 _ rfl
            have hf34_0 := hfr34 0
            (try simp only [Nat.add_zero] at hx34_0 hf34_0)
            (try rw [show ((Kd.slice 3 (Kd.int .i64))).sz = 1 from rfl, Nat.mul_one] at hx34_0)
            (try rw [show ((Kd.slice 3 (Kd.int .i64))).sz = 1 from rfl, Nat.mul_one] at hf34_0)
            have HP34 := Kd.S_seg0 HH32.out (of_decide_eq_true (by first | (with_reducible assumption) | assumption)) (by have h_ : (x5_1 : Int) < ((x4_2.length : Int) : Int) := of_decide_eq_true (by first | (with_reducible assumption) | assumption); first | exact h_ | (have e_ := (HN32.out); omega) | simpa using h_) (seg := [.slice Ao36 y618.length co36]) (j := 0) (show 1 ≤ 1 from by decide) (x' := y618) (Kd.M_row HO620.out) (fun _ hk => hk)
            (try simp only [show ((Kd.slice 3 (Kd.int .i64))).sz = 1 from rfl, Nat.mul_one, Nat.add_zero] at HP34)
            clear hcc34 hfr34
            have HS34 := HP34.1
            rw [← Ny621.out] at HS34
            have HQ34 := Aside0.mk HS34
            obtain ⟨_, hgg34⟩ := Kd.R_typed hraw34 go32 rfl
            have GG34_ := Aside0.mk hgg34
            clear HP34 HS34 hgg34
            refine hK.out _ _ (HS0_) (fun hHeld => ?_)
            clear hK K
            refine norm_ (a' := ?_) ?_ ?_
            rotate_left
            · show Act.put _ (some 55) _ = _
              simp only [Act.put, List.setIfInBounds_toArray, List.set_cons_zero, List.set_cons_succ, i64_w, i32_w]
              rfl
            refine pr_ 11 (some 56) (mkB 13 4095) HT_ ?_
            refine last_ (i := 12) (N := none) (mkB 13 8191) rfl rfl (one_of HT_.out (by kernel_rfl)) (by decide) (fun K hK => ?_)
            refine skip_ (w1 := ?_) (by rfl) rfl ?_ ?_
            rotate_left
            · go_simp
              rfl
            refine hK.out _ _ ?_
            clear hK K
            refine done_ (done_of HT_.out (by kernel_rfl)) ?_
            try go_wp2
            (try simp only [← hl3_2])
            go_roundg k2
            case measure => have := HK1.out; have := HK2.out; omega
            case rel => exact ⟨(y621), (wrap64 (x6_2 + 1)), (by first | rfl | (simp; done) | (simp [*]; done)), H', ⟨by have := HK1.out; have := HK2.out; omega⟩, ⟨by (try simp only [hl3_1]); (try simp only [hl3_2]); (with_reducible repeat (first | apply Kd.R_alloc | apply Kd.R_drewN | apply Kd.R_drew)); exact Kd.R_mono (Kd.R_far (p := ⟨go32, (x5_1 : Int).toNat, none⟩) (Kd.R_types HO_3.out GG34_.out (by decide)) (fun _ hk => hk.2) (.slice Ao36 y618.length co36)) (fun _ hk => hk.1)⟩, ⟨by (try simp only [hl3_1]); (try simp only [hl3_2]); (with_reducible repeat (first | apply Kd.S_alloc | apply Kd.S_drewN | apply Kd.S_drew)); exact Kd.S_mono HQ34.out (fun _ hk => hk.1)⟩, ⟨by repeat (first | (with_reducible first | exact HB.out | apply below_alloc | apply pw_below_drewN | apply below_drew1 | refine below_set ?_ GB32.out) | exact HB.out)⟩⟩
      rw [if_neg c12] at H
      have c12b0 : decide (x5_1 < (x3_1.length : Int)) = false := decide_eq_false c12
      (try (have c12b0h := c12b0; simp only [hl3_1] at c12b0h))
      clear c12
      obtain ⟨y622, hy622⟩ : ∃ y_ : List (List Bool), y_ = (([x3_1] : List (List Bool))) := ⟨_, rfl⟩
      replace H : (dropperref08_Table.l2 k1 x3_1 x4_1 y622 true) = some r := by first | (rw [hy622]; with_reducible exact H) | (have H2_ := (Option.bind_some _ _).symm.trans H; rw [hy622]; with_reducible exact H2_) | (have H2_ := (Option.bind_some _ _).symm.trans H; with_reducible exact H2_) | with_reducible exact H | (rw [hy622]; exact H) | exact H
      have Ny622 := Aside0.mk hy622
      clear hy622
      have H' := Aside0.mk H
      clear H
      have n_ := Aside0.mk (Kd.V_mono (ok' := fun k_ => ((w.heap.size ≤ k_) ∧ some k_ ≠ (v606 : Value).ownBlock)) (Kd.R_V (base' := w.heap.size) (Kd.R_apart' HO_3.out (Kd.S_typed HO_4.out) (by decide))) (fun k_ hk => ⟨hk.1, hk.2⟩))
      clear HO_3
      have HO_3 := n_
      clear n_
      go_wp2_with (first | ((with_reducible refine gate_dst (N := 58) rfl ?_); refine Kd.N_lit (Kd.slice 4 Kd.bool) _ 56 ?hg (N' := 58) ?hd (xs := ([x3_1] : List (List Bool))) (inner := [.slice Ao9 x3_1.length co9]) (ok := (fun k_ => (w.heap.size ≤ k_) ∧ some k_ ≠ (v606 : Value).ownBlock)) (okp := (fun k_ => (w.heap.size ≤ k_) ∧ some k_ ≠ (v606 : Value).ownBlock)) ?hr ?hp (fun _ hk => hk) ((show ∀ k_, wr.heap.size ≤ k_ → (fun k_ => (w.heap.size ≤ k_) ∧ some k_ ≠ (v606 : Value).ownBlock) k_ from fun k_ hk => ⟨(Nat.le_trans (below_size (by repeat (first | (with_reducible first | exact HB.out | apply below_alloc | apply pw_below_drewN | apply below_drew1) | exact HB.out))) hk), Kd.fresh' (Kd.S_lt (by (with_reducible repeat (first | apply Kd.S_alloc | apply Kd.S_drewN | apply Kd.S_drew)); exact HO_4.out)) k_ hk⟩) _ (Nat.le_refl _)) (Below.refl _ _) (Nat.le_refl _) (by simp) ?_; (case hd => rfl); (case hg => rfl); (case hr => first | (go_simp; done) | (go_simp; rfl)); (case hp => exact (Reps.one (show Kd.FK (Kd.slice 4 Kd.bool) _ _ x3_1 [.slice Ao9 x3_1.length co9] from (Kd.FK_slice_mk (Kd.V_reads' HO_3.out).2.1 (Kd.V_F (Kd.V_mono (ok' := (fun k_ => (w.heap.size ≤ k_) ∧ some k_ ≠ (v606 : Value).ownBlock)) ((show Kd.V Kd.bool 4 _ _ (fun k_ => ((w.heap.size ≤ k_) ∧ some k_ ≠ (v606 : Value).ownBlock)) (.slice Ao9 x3_1.length co9) x3_1 from by (with_reducible repeat (first | apply Kd.V_alloc | apply Kd.V_drewN | apply Kd.V_drew)); exact HO_3.out)) (fun k_ hk => ⟨hk.1, hk.2⟩))))) (Reps.none _ _))); intro v623 w40 ho41 hb hg_ hnew_; clear hg_ hnew_; (first | rw [← Ny622.out] at ho41 | (simp only [Int.reduceToNat] at ho41; rw [← Ny622.out] at ho41)); have n0_ := Aside0.mk (Kd.V_elder' (by (with_reducible repeat (first | apply Kd.V_alloc | apply Kd.V_drewN | apply Kd.V_drew)); exact HO_3.out) (Kd.N_base ho41) hb); have n1_ := Aside0.mk (Kd.S_below (by (with_reducible repeat (first | apply Kd.S_alloc | apply Kd.S_drewN | apply Kd.S_drew)); exact HO_4.out) hb); have n2_ := Aside0.mk (Kd.N_lower ho41 (below_size (by repeat (first | (with_reducible first | exact HB.out | apply below_alloc | apply pw_below_drewN | apply below_drew1) | exact HB.out)))); have n3_ := Aside0.mk (below_step (by repeat (first | (with_reducible first | exact HB.out | apply below_alloc | apply pw_below_drewN | apply below_drew1) | exact HB.out)) hb); clear HO_3; clear HO_4; clear HB; have HO_3 := n0_; have HO_4 := n1_; have HO624 := n2_; have HB := n3_; clear n0_ n1_ n2_ n3_; clear hb ho41))
      go_loopg [3, 9, 10] k1 (fun kq v3 v9 v10 w' => ∃ (x3_2 : List Bool) (x9_2 : List (List Bool)) (x10_2 : Bool), v10 = .bool x10_2 ∧ Aside0 (dropperref08_Table.l2 kq x3_2 x4_1 x9_2 x10_2 = some r) ∧ Aside0 (kq ≤ k1) ∧ Aside0 (Kd.V Kd.bool 4 w' w.heap.size (fun k_ => (w.heap.size ≤ k_) ∧ some k_ ≠ (v606 : Value).ownBlock ∧ some k_ ≠ (v9 : Value).ownBlock) v3 x3_2) ∧ Aside0 (Kd.S (Kd.slice 3 (Kd.int .i64)) 22 w' w.heap.size (fun k_ => (w.heap.size ≤ k_)) v606 x4_1) ∧ Aside0 (Kd.N (Kd.slice 4 Kd.bool) 56 w' w.heap.size (fun k_ => (w.heap.size ≤ k_) ∧ some k_ ≠ (v606 : Value).ownBlock) v9 x9_2) ∧ Aside0 (Below w.heap.size w w'))
      case atStart => exact ⟨(x3_1), (y622), (true), (by first | rfl | (simp; done) | (simp [*]; done)), H', ⟨Nat.le_refl _⟩, ⟨by (try simp only [hl3_1]); (with_reducible repeat (first | apply Kd.V_alloc | apply Kd.V_drewN | apply Kd.V_drew)); exact Kd.V_mono HO_3.out (fun _ hk => ⟨hk.1.1, ⟨hk.1.2, hk.2⟩⟩)⟩, ⟨by (try simp only [hl3_1]); (with_reducible repeat (first | apply Kd.S_alloc | apply Kd.S_drewN | apply Kd.S_drew)); exact HO_4.out⟩, ⟨by (try simp only [hl3_1]); (with_reducible repeat (first | apply Kd.N_alloc | apply Kd.N_drewN | apply Kd.N_drew)); exact HO624.out⟩, ⟨by repeat (first | (with_reducible first | exact HB.out | apply below_alloc | apply pw_below_drewN | apply below_drew1) | exact HB.out)⟩⟩
      case round =>
        clear H'
        try clear c1
        try clear p1
        try clear q1
        try clear hx1
        try clear hf1
        try clear c2
        try clear p2
        try clear q2
        try clear c3
        try clear c3b0
        try clear c3b1
        try clear hx3
        try clear hf3
        try clear c4
        try clear c4b0
        try clear c4b1
        try clear c5
        try clear c5b0
        try clear c5b1
        try clear c6
        try clear c6b0
        try clear c6b1
        try clear p6
        try clear q6
        try clear hx6
        try clear c8
        try clear c12
        try clear c12b0
        try clear c13
        try clear c13b0
        try clear p14
        try clear q14
        try clear hx14
        try clear hf14
        try clear c17
        try clear c17b0
        try clear c20
        try clear c21
        try clear c21b0
        try clear c22
        try clear c22b0
        try clear c24
        try clear p25
        try clear q25
        try clear c32
        try clear c34
        try clear hx34
        try clear hf34
        try clear hx14_0
        try clear hx34_0
        try clear hx616_0
        try clear p1
        try clear p14
        try clear p2
        try clear p25
        try clear p616
        try clear q1
        try clear q14
        try clear q25
        try clear q616
        obtain ⟨x3_2, x9_2, x10_2, rfl, HA, HK2, HO_3, HO_4, HO_9, HB⟩ := hrel
        cases gk with
        | zero => exact absurd HA.out (by simp [dropperref08_Table.l2])
        | succ k2 =>
          have H := HA.out
          clear HA
          simp only [dropperref08_Table.l2] at H
          by_cases c42 : x10_2 = true
          rotate_left
          · replace c42 := Bool.eq_false_iff.mpr c42
            subst c42
            have H1 : (some x9_2) = some r := by rw [if_neg (show ¬ (false = true) by decide)] at H; exact H
            clear H
            have H := H1
            clear H1
            obtain rfl := Option.some.inj H
            go_wp2
            go_ret
            exact ⟨_, by first | rfl | (simp [errW_none, errW_some] <;> rfl) | (simp [*, errW_none, errW_some] <;> rfl), by (with_reducible repeat (first | apply Kd.N_alloc | apply Kd.N_drewN | apply Kd.N_drew)); exact Kd.N_mono HO_9.out (fun _ hk => hk.1), by repeat (first | (with_reducible first | exact HB.out | apply below_alloc | apply pw_below_drewN | apply below_drew1) | exact HB.out)⟩
          subst c42
          have H1 : (if 0 ≤ (x3_2.length : Int) then (if ((x3_2.length : Int) : Int).toNat ≤ 281474976710656 then (dropperref08_Table.l3 k2 x3_2 x4_1 x9_2 false (List.replicate ((x3_2.length : Int) : Int).toNat false) 0) else (none)) else (none)) = some r := by rw [if_pos rfl] at H; exact H
          clear H
          have H := H1
          clear H1
          by_cases c43 : 0 ≤ (x3_2.length : Int)
          rotate_left
          · rw [if_neg c43] at H
            exact absurd H (by simp)
          rw [if_pos c43] at H
          have c43b0 := eq_true c43
          have c43b1 : decide (0 ≤ (x3_2.length : Int)) = true := decide_eq_true c43
          clear c43
          by_cases c44 : ((x3_2.length : Int) : Int).toNat ≤ 281474976710656
          rotate_left
          · rw [if_neg c44] at H
            exact absurd H (by simp)
          rw [if_pos c44] at H
          have c44b0 := eq_true c44
          have c44b1 : decide (((x3_2.length : Int) : Int).toNat ≤ 281474976710656) = true := decide_eq_true c44
          clear c44
          obtain ⟨y625, hy625⟩ : ∃ y_ : List Bool, y_ = (List.replicate ((x3_2.length : Int) : Int).toNat false) := ⟨_, rfl⟩
          replace H : (dropperref08_Table.l3 k2 x3_2 x4_1 x9_2 false y625 0) = some r := by first | (rw [hy625]; with_reducible exact H) | (have H2_ := (Option.bind_some _ _).symm.trans H; rw [hy625]; with_reducible exact H2_) | (have H2_ := (Option.bind_some _ _).symm.trans H; with_reducible exact H2_) | with_reducible exact H | (rw [hy625]; exact H) | exact H
          have Ny625 := Aside0.mk hy625
          clear hy625
          have H' := Aside0.mk H
          clear H
          obtain ⟨Ao45, co45, eo45⟩ := Kd.V_slice HO_3.out
          subst eo45
          go_wp2_with (first | ((with_reducible refine gate_dst (N := 62) rfl ?_); refine Kd.R_make Kd.bool _ 4 rfl (N := 62) rfl 56 _ _ rfl (x3_2.length : Int) rfl rfl Try.underlying56 (.bool false) 1 info4 rfl (by decide) (by omega) false (ok := fun _ => True) (okp := fun _ => True) rfl (fun _ hk => hk) trivial (of_decide_eq_true (by first | (with_reducible assumption) | assumption)) (Nat.le_trans (Nat.mul_le_mul_right _ (of_decide_eq_true (by first | (with_reducible assumption) | assumption) : (x3_2.length : Int).toNat ≤ 281474976710656)) (by omega)) (Below.refl _ _) (Nat.le_refl _) ?_; intro v626 w46 ho47 hb hg_ hnew_; clear hg_ hnew_; (first | rw [← Ny625.out] at ho47 | (simp only [Int.reduceToNat] at ho47; rw [← Ny625.out] at ho47)); have n0_ := Aside0.mk (Kd.V_elder' (by (with_reducible repeat (first | apply Kd.V_alloc | apply Kd.V_drewN | apply Kd.V_drew)); exact HO_3.out) (Kd.R_base ho47) hb); have n1_ := Aside0.mk (Kd.S_below (by (with_reducible repeat (first | apply Kd.S_alloc | apply Kd.S_drewN | apply Kd.S_drew)); exact HO_4.out) hb); have n2_ := Aside0.mk (Kd.N_elder' (by (with_reducible repeat (first | apply Kd.N_alloc | apply Kd.N_drewN | apply Kd.N_drew)); exact HO_9.out) (Kd.R_base ho47) hb); have n3_ := Aside0.mk (Kd.R_lower (Kd.R_newM (M := fun k_ => (w.heap.size ≤ k_)) ho47 (below_size (by repeat (first | (with_reducible first | exact HB.out | apply below_alloc | apply pw_below_drewN | apply below_drew1) | exact HB.out))) (fun k_ h_ => h_)) (below_size (by repeat (first | (with_reducible first | exact HB.out | apply below_alloc | apply pw_below_drewN | apply below_drew1) | exact HB.out)))); have n4_ := Aside0.mk (below_step (by repeat (first | (with_reducible first | exact HB.out | apply below_alloc | apply pw_below_drewN | apply below_drew1) | exact HB.out)) hb); clear HO_3; clear HO_4; clear HO_9; clear HB; have HO_3 := n0_; have HO_4 := n1_; have HO_9 := n2_; have HO627 := n3_; have HB := n4_; clear n0_ n1_ n2_ n3_ n4_; clear hb ho47))
          go_loopg [10, 12] k2 (fun kq v10 v12 w' => ∃ (x10_3 : Bool) (x11_3 : List Bool) (x12_3 : Int), v10 = .bool x10_3 ∧ v12 = .int .i64 x12_3 ∧ Aside0 (dropperref08_Table.l3 kq x3_2 x4_1 x9_2 x10_3 x11_3 x12_3 = some r) ∧ Aside0 (kq ≤ k2) ∧ Aside0 (Kd.V Kd.bool 4 w' w.heap.size (fun k_ => (w.heap.size ≤ k_) ∧ some k_ ≠ (v606 : Value).ownBlock ∧ some k_ ≠ (u9 : Value).ownBlock ∧ some k_ ≠ (v626 : Value).ownBlock) (.slice Ao45 x3_2.length co45) x3_2) ∧ Aside0 (Kd.S (Kd.slice 3 (Kd.int .i64)) 22 w' w.heap.size (fun k_ => (w.heap.size ≤ k_)) v606 x4_1) ∧ Aside0 (Kd.N (Kd.slice 4 Kd.bool) 56 w' w.heap.size (fun k_ => (w.heap.size ≤ k_) ∧ some k_ ≠ (v606 : Value).ownBlock ∧ some k_ ≠ (v626 : Value).ownBlock) u9 x9_2) ∧ Aside0 (Kd.R Kd.bool 4 w' w.heap.size (fun k_ => (w.heap.size ≤ k_)) v626 x11_3) ∧ Aside0 (Below w.heap.size w w'))
          case atStart => exact ⟨(false), (y625), (0), (by first | rfl | (simp; done) | (simp [*]; done)), (by first | rfl | (simp; done) | (simp [*]; done)), H', ⟨Nat.le_refl _⟩, ⟨by (try simp only [hl3_1]); (with_reducible repeat (first | apply Kd.V_alloc | apply Kd.V_drewN | apply Kd.V_drew)); exact Kd.V_mono HO_3.out (fun _ hk => ⟨hk.1.1, ⟨hk.1.2.1, ⟨hk.1.2.2, hk.2⟩⟩⟩)⟩, ⟨by (try simp only [hl3_1]); (with_reducible repeat (first | apply Kd.S_alloc | apply Kd.S_drewN | apply Kd.S_drew)); exact HO_4.out⟩, ⟨by (try simp only [hl3_1]); (with_reducible repeat (first | apply Kd.N_alloc | apply Kd.N_drewN | apply Kd.N_drew)); exact Kd.N_mono HO_9.out (fun _ hk => ⟨hk.1.1, ⟨hk.1.2, hk.2⟩⟩)⟩, ⟨by (try simp only [hl3_1]); (with_reducible repeat (first | apply Kd.R_alloc | apply Kd.R_drewN | apply Kd.R_drew)); exact Kd.R_mono HO627.out (fun _ hk => hk.1)⟩, ⟨by repeat (first | (with_reducible first | exact HB.out | apply below_alloc | apply pw_below_drewN | apply below_drew1) | exact HB.out)⟩⟩
          case round =>
            clear H'
            try clear c1
            try clear p1
            try clear q1
            try clear hx1
            try clear hf1
            try clear c2
            try clear p2
            try clear q2
            try clear c3
            try clear c3b0
            try clear c3b1
            try clear hx3
            try clear hf3
            try clear c4
            try clear c4b0
            try clear c4b1
            try clear c5
            try clear c5b0
            try clear c5b1
            try clear c6
            try clear c6b0
            try clear c6b1
            try clear p6
            try clear q6
            try clear hx6
            try clear c8
            try clear c12
            try clear c12b0
            try clear c13
            try clear c13b0
            try clear p14
            try clear q14
            try clear hx14
            try clear hf14
            try clear c17
            try clear c17b0
            try clear c20
            try clear c21
            try clear c21b0
            try clear c22
            try clear c22b0
            try clear c24
            try clear p25
            try clear q25
            try clear c32
            try clear c34
            try clear hx34
            try clear hf34
            try clear c42
            try clear c43
            try clear c43b0
            try clear c43b1
            try clear c44
            try clear c44b0
            try clear c44b1
            try clear hx14_0
            try clear hx34_0
            try clear hx616_0
            try clear p1
            try clear p14
            try clear p2
            try clear p25
            try clear p6
            try clear p616
            try clear q1
            try clear q14
            try clear q2
            try clear q25
            try clear q6
            try clear q616
            obtain ⟨x10_3, x11_3, x12_3, rfl, rfl, HA, HK3, HO_3, HO_4, HO_9, HO_11, HB⟩ := hrel
            cases gk with
            | zero => exact absurd HA.out (by simp [dropperref08_Table.l3])
            | succ k3 =>
              have H := HA.out
              clear HA
              simp only [dropperref08_Table.l3] at H
              by_cases c48 : x12_3 < (x3_2.length : Int)
              rotate_left
              · rw [if_neg c48] at H
                have c48b0 : decide (x12_3 < (x3_2.length : Int)) = false := decide_eq_false c48
                (try (have c48b0h := c48b0; simp only [hl3_1] at c48b0h))
                clear c48
                by_cases c76 : x10_3 = true
                rotate_left
                · replace c76 := Bool.eq_false_iff.mpr c76
                  subst c76
                  have H1 : (dropperref08_Table.l2 k3 x3_2 x4_1 x9_2 false) = some r := by rw [if_neg (show ¬ (false = true) by decide)] at H; exact H
                  clear H
                  have H := H1
                  clear H1
                  have H' := Aside0.mk H
                  clear H
                  go_wp2
                  go_roundg k3
                  case measure => have := HK1.out; have := HK2.out; have := HK3.out; omega
                  case rel => exact ⟨(x3_2), (x9_2), (false), (by first | rfl | (simp; done) | (simp [*]; done)), H', ⟨by have := HK1.out; have := HK2.out; have := HK3.out; omega⟩, ⟨by (try simp only [hl3_1]); (with_reducible repeat (first | apply Kd.V_alloc | apply Kd.V_drewN | apply Kd.V_drew)); exact Kd.V_mono HO_3.out (fun _ hk => ⟨hk.1, ⟨hk.2.1, hk.2.2.1⟩⟩)⟩, ⟨by (try simp only [hl3_1]); (with_reducible repeat (first | apply Kd.S_alloc | apply Kd.S_drewN | apply Kd.S_drew)); exact HO_4.out⟩, ⟨by (try simp only [hl3_1]); (with_reducible repeat (first | apply Kd.N_alloc | apply Kd.N_drewN | apply Kd.N_drew)); exact Kd.N_mono HO_9.out (fun _ hk => ⟨hk.1, hk.2.1⟩)⟩, ⟨by repeat (first | (with_reducible first | exact HB.out | apply below_alloc | apply pw_below_drewN | apply below_drew1) | exact HB.out)⟩⟩
                subst c76
                have H1 : (if x9_2.length < 5864062014805 then (dropperref08_Table.l2 k3 x11_3 x4_1 (x9_2 ++ [x11_3]) true) else (none)) = some r := by rw [if_pos rfl] at H; exact H
                clear H
                have H := H1
                clear H1
                by_cases c77 : x9_2.length < 5864062014805
                rotate_left
                · rw [if_neg c77] at H
                  exact absurd H (by simp)
                rw [if_pos c77] at H
                have LMc77 := Aside0.mk c77
                clear c77
                obtain ⟨y628, hy628⟩ : ∃ y_ : List (List Bool), y_ = (x9_2 ++ [x11_3]) := ⟨_, rfl⟩
                replace H : (dropperref08_Table.l2 k3 x11_3 x4_1 y628 true) = some r := by first | (rw [hy628]; with_reducible exact H) | (have H2_ := (Option.bind_some _ _).symm.trans H; rw [hy628]; with_reducible exact H2_) | (have H2_ := (Option.bind_some _ _).symm.trans H; with_reducible exact H2_) | with_reducible exact H | (rw [hy628]; exact H) | exact H
                have Ny628 := Aside0.mk hy628
                clear hy628
                have H' := Aside0.mk H
                clear H
                obtain ⟨Ao78, co78, eo78⟩ := Kd.R_slice HO_11.out
                subst eo78
                have n_ := Aside0.mk (Kd.V_mono (ok' := fun k_ => (((w.heap.size ≤ k_) ∧ some k_ ≠ (v606 : Value).ownBlock) ∧ some k_ ≠ (u9 : Value).ownBlock)) (Kd.R_V (base' := w.heap.size) (Kd.R_apart' (Kd.R_apart' HO_11.out (Kd.S_typed HO_4.out) (by decide)) (Kd.N_typed HO_9.out) (by decide))) (fun k_ hk => ⟨⟨hk.1.1, hk.1.2⟩, hk.2⟩))
                clear HO_11
                have HO_11 := n_
                clear n_
                go_wp2_with (first | ((with_reducible refine gate_builtin (b := .append) (xs := #[.tmp 110, .tmp 112]) rfl ?_); at_builtin; refine Kd.N_append (Kd.slice 4 Kd.bool) (w0 := w) w.heap.size rfl (.tmp 110) (.tmp 112) 60 56 (.slice none 0 0) 24 rfl Try.underlying60 info56 rfl (by decide) (by omega) u9 x9_2 x11_3 [.slice Ao78 x11_3.length co78] (fun k_ => (w.heap.size ≤ k_) ∧ some k_ ≠ (v606 : Value).ownBlock) (fun k_ => ((fun k_ => (w.heap.size ≤ k_) ∧ some k_ ≠ (v606 : Value).ownBlock)) k_ ∧ some k_ ≠ (u9 : Value).ownBlock) rfl rfl ?aP (fun _ hk => hk) ?aF ?aO ?aB ?aS ?aL ?_; (case aP => exact (Kd.FK_slice_mk (Kd.V_reads' HO_11.out).2.1 (Kd.V_F (Kd.V_mono (ok' := (fun k_ => ((fun k_ => (w.heap.size ≤ k_) ∧ some k_ ≠ (v606 : Value).ownBlock)) k_ ∧ some k_ ≠ (u9 : Value).ownBlock)) ((show Kd.V Kd.bool 4 _ _ (fun k_ => (((w.heap.size ≤ k_) ∧ some k_ ≠ (v606 : Value).ownBlock) ∧ some k_ ≠ (u9 : Value).ownBlock)) (.slice Ao78 x11_3.length co78) x11_3 from by (with_reducible repeat (first | apply Kd.V_alloc | apply Kd.V_drewN | apply Kd.V_drew)); exact HO_11.out)) (fun k_ hk => ⟨⟨hk.1.1, hk.1.2⟩, hk.2⟩))))); (case aB => exact (by repeat (first | (with_reducible first | exact HB.out | apply below_alloc | apply pw_below_drewN | apply below_drew1) | exact HB.out))); (case aF => exact (fun k_ hk => ⟨(Nat.le_trans (below_size (by repeat (first | (with_reducible first | exact HB.out | apply below_alloc | apply pw_below_drewN | apply below_drew1) | exact HB.out))) hk), Kd.fresh' (Kd.S_lt (by (with_reducible repeat (first | apply Kd.S_alloc | apply Kd.S_drewN | apply Kd.S_drew)); exact HO_4.out)) k_ hk⟩)); (case aO => exact (by (with_reducible repeat (first | apply Kd.N_alloc | apply Kd.N_drewN | apply Kd.N_drew)); exact Kd.N_mono HO_9.out (fun _ hk => ⟨hk.1, hk.2.1⟩))); (case aS => exact (below_size (by repeat (first | (with_reducible first | exact HB.out | apply below_alloc | apply pw_below_drewN | apply below_drew1) | exact HB.out)))); (case aL => have := LMc77.out; omega); intro v629 w79 ho hb hg hat; rw [← Ny628.out] at ho; have n0_ := Aside0.mk (Kd.V_afterv (ok := (fun k_ => (w.heap.size ≤ k_) ∧ some k_ ≠ (v606 : Value).ownBlock ∧ some k_ ≠ (.slice Ao78 x11_3.length co78 : Value).ownBlock)) (by (with_reducible repeat (first | apply Kd.V_alloc | apply Kd.V_drewN | apply Kd.V_drew)); exact Kd.V_mono HO_3.out (fun _ hk => ⟨⟨hk.1, ⟨hk.2.1, hk.2.2.2⟩⟩, hk.2.2.1⟩)) hg hat); have n1_ := Aside0.mk (Kd.S_over' (by (with_reducible repeat (first | apply Kd.S_alloc | apply Kd.S_drewN | apply Kd.S_drew)); exact HO_4.out) (Kd.N_typed (by (with_reducible repeat (first | apply Kd.N_alloc | apply Kd.N_drewN | apply Kd.N_drew)); exact HO_9.out)) (by decide) hg); have n2_ := Aside0.mk (Kd.V_afterv (ok := (fun k_ => (w.heap.size ≤ k_) ∧ some k_ ≠ (v606 : Value).ownBlock)) (by (with_reducible repeat (first | apply Kd.V_alloc | apply Kd.V_drewN | apply Kd.V_drew)); exact HO_11.out) hg hat); have n3_ := Aside0.mk (hb); have n4_ := Aside0.mk (ho); clear HO_3; clear HO_4; clear HO_11; clear HB; clear HO_9; have HO_3 := n0_; have HO_4 := n1_; have HO_11 := n2_; have HB := n3_; have HO630 := n4_; clear n0_ n1_ n2_ n3_ n4_; clear ho hb hg hat))
                go_roundg k3
                case measure => have := HK1.out; have := HK2.out; have := HK3.out; omega
                case rel => exact ⟨(x11_3), (y628), (true), (by first | rfl | (simp; done) | (simp [*]; done)), H', ⟨by have := HK1.out; have := HK2.out; have := HK3.out; omega⟩, ⟨by (try simp only [hl3_1]); (with_reducible repeat (first | apply Kd.V_alloc | apply Kd.V_drewN | apply Kd.V_drew)); exact Kd.V_mono HO_11.out (fun _ hk => ⟨hk.1.1, ⟨hk.1.2, hk.2⟩⟩)⟩, ⟨by (try simp only [hl3_1]); (with_reducible repeat (first | apply Kd.S_alloc | apply Kd.S_drewN | apply Kd.S_drew)); exact HO_4.out⟩, ⟨by (try simp only [hl3_1]); (with_reducible repeat (first | apply Kd.N_alloc | apply Kd.N_drewN | apply Kd.N_drew)); exact HO630.out⟩, ⟨by repeat (first | (with_reducible first | exact HB.out | apply below_alloc | apply pw_below_drewN | apply below_drew1) | exact HB.out)⟩⟩
              rw [if_pos c48] at H
              have c48b0 : decide (x12_3 < (x3_2.length : Int)) = true := decide_eq_true c48
              (try (have c48b0h := c48b0; simp only [hl3_1] at c48b0h))
              clear c48
              have H' := Aside0.mk H
              clear H
              go_wp2
              go_loopg [13] k3 (fun kq v13 w' => ∃ (x11_4 : List Bool) (x13_4 : Int), v13 = .int .i64 x13_4 ∧ Aside0 (dropperref08_Table.l4 kq x3_2 x4_1 x9_2 x10_3 x11_4 x12_3 x13_4 = some r) ∧ Aside0 (kq ≤ k3) ∧ Aside0 (Kd.V Kd.bool 4 w' w.heap.size (fun k_ => (w.heap.size ≤ k_) ∧ some k_ ≠ (v606 : Value).ownBlock ∧ some k_ ≠ (u9 : Value).ownBlock ∧ some k_ ≠ (v626 : Value).ownBlock) (.slice Ao45 x3_2.length co45) x3_2) ∧ Aside0 (Kd.S (Kd.slice 3 (Kd.int .i64)) 22 w' w.heap.size (fun k_ => (w.heap.size ≤ k_)) v606 x4_1) ∧ Aside0 (Kd.N (Kd.slice 4 Kd.bool) 56 w' w.heap.size (fun k_ => (w.heap.size ≤ k_) ∧ some k_ ≠ (v606 : Value).ownBlock ∧ some k_ ≠ (v626 : Value).ownBlock) u9 x9_2) ∧ Aside0 (Kd.R Kd.bool 4 w' w.heap.size (fun k_ => (w.heap.size ≤ k_)) v626 x11_4) ∧ Aside0 (Below w.heap.size w w'))
              case atStart => exact ⟨(x11_3), (0), (by first | rfl | (simp; done) | (simp [*]; done)), H', ⟨Nat.le_refl _⟩, ⟨by (try simp only [hl3_1]); (with_reducible repeat (first | apply Kd.V_alloc | apply Kd.V_drewN | apply Kd.V_drew)); exact HO_3.out⟩, ⟨by (try simp only [hl3_1]); (with_reducible repeat (first | apply Kd.S_alloc | apply Kd.S_drewN | apply Kd.S_drew)); exact HO_4.out⟩, ⟨by (try simp only [hl3_1]); (with_reducible repeat (first | apply Kd.N_alloc | apply Kd.N_drewN | apply Kd.N_drew)); exact HO_9.out⟩, ⟨by (try simp only [hl3_1]); (with_reducible repeat (first | apply Kd.R_alloc | apply Kd.R_drewN | apply Kd.R_drew)); exact HO_11.out⟩, ⟨by repeat (first | (with_reducible first | exact HB.out | apply below_alloc | apply pw_below_drewN | apply below_drew1) | exact HB.out)⟩⟩
              case round =>
                clear H'
                try clear c1
                try clear p1
                try clear q1
                try clear hx1
                try clear hf1
                try clear c2
                try clear p2
                try clear q2
                try clear c3
                try clear c3b0
                try clear c3b1
                try clear hx3
                try clear hf3
                try clear c4
                try clear c4b0
                try clear c4b1
                try clear c5
                try clear c5b0
                try clear c5b1
                try clear c6
                try clear c6b0
                try clear c6b1
                try clear p6
                try clear q6
                try clear hx6
                try clear c8
                try clear c12
                try clear c12b0
                try clear c13
                try clear c13b0
                try clear p14
                try clear q14
                try clear hx14
                try clear hf14
                try clear c17
                try clear c17b0
                try clear c20
                try clear c21
                try clear c21b0
                try clear c22
                try clear c22b0
                try clear c24
                try clear p25
                try clear q25
                try clear c32
                try clear c34
                try clear hx34
                try clear hf34
                try clear c42
                try clear c43
                try clear c43b0
                try clear c43b1
                try clear c44
                try clear c44b0
                try clear c44b1
                try clear c48
                try clear c48b0
                try clear hx14_0
                try clear hx34_0
                try clear hx616_0
                try clear p1
                try clear p14
                try clear p2
                try clear p25
                try clear p6
                try clear p616
                try clear q1
                try clear q14
                try clear q2
                try clear q25
                try clear q6
                try clear q616
                obtain ⟨x11_4, x13_4, rfl, HA, HK4, HO_3, HO_4, HO_9, HO_11, HB⟩ := hrel
                cases gk with
                | zero => exact absurd HA.out (by simp [dropperref08_Table.l4])
                | succ k4 =>
                  have H := HA.out
                  clear HA
                  simp only [dropperref08_Table.l4] at H
                  by_cases c49 : 0 ≤ x12_3
                  rotate_left
                  · rw [if_neg c49] at H
                    exact absurd H (by simp)
                  rw [if_pos c49] at H
                  have c49b0 : decide (0 ≤ x12_3) = true := decide_eq_true c49
                  clear c49
                  by_cases c50 : x12_3 < (x4_1.length : Int)
                  rotate_left
                  · rw [if_neg c50] at H
                    exact absurd H (by simp)
                  rw [if_pos c50] at H
                  have c50b0 : decide (x12_3 < (x4_1.length : Int)) = true := decide_eq_true c50
                  (try (have c50b0h := c50b0; simp only [hl3_1] at c50b0h))
                  clear c50
                  by_cases c51 : x13_4 < ((rd_L1 x4_1 x12_3).length : Int)
                  rotate_left
                  · rw [if_neg c51] at H
                    have c51b0 : decide (x13_4 < ((rd_L1 x4_1 x12_3).length : Int)) = false := decide_eq_false c51
                    (try (have c51b0h := c51b0; simp only [hl3_1] at c51b0h))
                    clear c51
                    by_cases c68 : x10_3 = true
                    · subst c68
                      have H1 : (dropperref08_Table.l3 k4 x3_2 x4_1 x9_2 true x11_4 (wrap64 (x12_3 + 1))) = some r := by rw [if_pos rfl] at H; exact H
                      clear H
                      have H := H1
                      clear H1
                      have H' := Aside0.mk H
                      clear H
                      obtain ⟨Ao69, co69, eo69⟩ := Kd.S_slice HO_4.out
                      subst eo69
                      have p631 : 0 ≤ (x12_3 : Int) := of_decide_eq_true (by first | (with_reducible assumption) | assumption)
                      have q631 : x12_3 < (x4_1.length : Int) := of_decide_eq_true (by first | (with_reducible assumption) | assumption)
                      obtain ⟨ad631, A631_0, c631_0, e631, hx631_0, hl631_0, hi631_0⟩ := at_L1 (Kd.S_reads' HO_4.out).2.2 x12_3 p631 q631
                      cases e631
                      obtain ⟨ce631, hce631, hMe631, hcc631⟩ := Kd.S_get HO_4.out [] x12_3 p631 (by first | exact q631 | exact of_decide_eq_true (by first | (with_reducible assumption) | assumption) | (have e_ := (Kd.S_reads' HO_4.out).1; omega))
                      obtain ⟨ve631_0, rfl, ge631_0⟩ := hMe631
                      have hv631_0 := hcc631 0 _ rfl
                      rw [Nat.add_zero, show ((Kd.slice 3 (Kd.int .i64))).sz = 1 from rfl, Nat.mul_one] at hv631_0
                      replace hv631_0 := Option.some.inj (hv631_0.symm.trans hx631_0)
                      rw [hv631_0] at ge631_0
                      have HL631_0 := Aside0.mk (show Kd.R (Kd.int .i64) 3 _ _ _ _ (rd_L1 x4_1 x12_3) from ge631_0)
                      clear hv631_0 ge631_0
                      have HX631_0 := Aside0.mk hx631_0
                      clear hcc631 hce631
                      have HR631_0 := Aside0.mk hi631_0
                      have HC631_0 := Aside0.mk hl631_0
                      clear hi631_0 hl631_0
                      replace p631 := eq_true p631
                      replace q631 := eq_true q631
                      try go_wp2
                      have n0_ := Aside0.mk (Kd.V_drew HO_3.out)
                      have n1_ := Aside0.mk (Kd.S_drew HO_4.out)
                      have n2_ := Aside0.mk (Kd.N_drew HO_9.out)
                      have n3_ := Aside0.mk (Kd.R_drew HO_11.out)
                      have n4_ := Aside0.mk (Kd.R_drew HL631_0.out)
                      have n5_ := Aside0.mk (Kd.C_drew HR631_0.out)
                      have n6_ := Aside0.mk (below_drew1 HB.out)
                      clear HO_3
                      clear HO_4
                      clear HO_9
                      clear HO_11
                      clear HL631_0
                      clear HR631_0
                      clear HB
                      have HO_3 := n0_
                      have HO_4 := n1_
                      have HO_9 := n2_
                      have HO_11 := n3_
                      have HL631_0 := n4_
                      have HR631_0 := n5_
                      have HB := n6_
                      clear n0_ n1_ n2_ n3_ n4_ n5_ n6_
                      refine start_ (n := 13) (S := fun w' => True) (ds := []) (mkB 13 0) (by kernel_rfl) rfl rfl trivial (fun hHeld => ?_); refine with_tabW dropperref08_Table.tab25 dropperref08_Table.bits25 (fun HT_ HW_ => ?_)
                      generalize wr.drew = w70 at HO_3 HO_4 HO_9 HO_11 HL631_0 HR631_0 HB hHeld ⊢
                      refine pr_ 0 (some 97) (mkB 13 1) HT_ ?_
                      refine pr_ 1 (some 98) (mkB 13 3) HT_ ?_
                      refine pu_ 2 (some 99) (mkB 13 7) HT_ ?_
                      refine pu_ 3 (some 100) (mkB 13 15) HT_ ?_
                      refine pu_ 4 (some 101) (mkB 13 31) HT_ ?_
                      refine pu_ 5 (some 102) (mkB 13 63) HT_ ?_
                      refine pu_ 6 (some 103) (mkB 13 127) HT_ ?_
                      refine pu_ 7 (some 104) (mkB 13 255) HT_ ?_
                      refine pu_ 8 (some 105) (mkB 13 511) HT_ ?_
                      refine pu_ 9 (some 106) (mkB 13 1023) HT_ ?_
                      refine pu_ 10 (some 107) (mkB 13 2047) HT_ ?_
                      refine pr_ 11 (some 108) (mkB 13 4095) HT_ ?_
                      refine pr_ 12 (some 10) (mkB 13 8191) HT_ ?_
                      refine done_ (done_of HT_.out (by kernel_rfl)) ?_
                      try go_wp2
                      go_roundg k4
                      case measure => have := HK1.out; have := HK2.out; have := HK3.out; have := HK4.out; omega
                      case rel => exact ⟨(true), (x11_4), (wrap64 (x12_3 + 1)), (by first | rfl | (simp; done) | (simp [*]; done)), (by first | rfl | (simp; done) | (simp [*]; done)), H', ⟨by have := HK1.out; have := HK2.out; have := HK3.out; have := HK4.out; omega⟩, ⟨by (try simp only [hl3_1]); (with_reducible repeat (first | apply Kd.V_alloc | apply Kd.V_drewN | apply Kd.V_drew)); exact HO_3.out⟩, ⟨by (try simp only [hl3_1]); (with_reducible repeat (first | apply Kd.S_alloc | apply Kd.S_drewN | apply Kd.S_drew)); exact HO_4.out⟩, ⟨by (try simp only [hl3_1]); (with_reducible repeat (first | apply Kd.N_alloc | apply Kd.N_drewN | apply Kd.N_drew)); exact HO_9.out⟩, ⟨by (try simp only [hl3_1]); (with_reducible repeat (first | apply Kd.R_alloc | apply Kd.R_drewN | apply Kd.R_drew)); exact HO_11.out⟩, ⟨by repeat (first | (with_reducible first | exact HB.out | apply below_alloc | apply pw_below_drewN | apply below_drew1) | exact HB.out)⟩⟩
                    replace c68 := Bool.eq_false_iff.mpr c68
                    subst c68
                    have H1 : (if x12_3 < (x11_4.length : Int) then (if x12_3 < (x3_2.length : Int) then (dropperref08_Table.l3 k4 x3_2 x4_1 x9_2 ((rdOf false x11_4 x12_3) != (rdOf false x3_2 x12_3)) x11_4 (wrap64 (x12_3 + 1))) else (none)) else (none)) = some r := by rw [if_neg (show ¬ (false = true) by decide)] at H; exact H
                    clear H
                    have H := H1
                    clear H1
                    by_cases c71 : x12_3 < (x11_4.length : Int)
                    rotate_left
                    · rw [if_neg c71] at H
                      exact absurd H (by simp)
                    rw [if_pos c71] at H
                    have c71b0 : decide (x12_3 < (x11_4.length : Int)) = true := decide_eq_true c71
                    (try (have c71b0h := c71b0; simp only [hl3_1] at c71b0h))
                    clear c71
                    by_cases c72 : x12_3 < (x3_2.length : Int)
                    rotate_left
                    · rw [if_neg c72] at H
                      exact absurd H (by simp)
                    rw [if_pos c72] at H
                    have c72b0 : decide (x12_3 < (x3_2.length : Int)) = true := decide_eq_true c72
                    (try (have c72b0h := c72b0; simp only [hl3_1] at c72b0h))
                    clear c72
                    have H' := Aside0.mk H
                    clear H
                    obtain ⟨Ao73, co73, eo73⟩ := Kd.S_slice HO_4.out
                    subst eo73
                    have p631 : 0 ≤ (x12_3 : Int) := of_decide_eq_true (by first | (with_reducible assumption) | assumption)
                    have q631 : x12_3 < (x4_1.length : Int) := of_decide_eq_true (by first | (with_reducible assumption) | assumption)
                    obtain ⟨ad631, A631_0, c631_0, e631, hx631_0, hl631_0, hi631_0⟩ := at_L1 (Kd.S_reads' HO_4.out).2.2 x12_3 p631 q631
                    cases e631
                    obtain ⟨ce631, hce631, hMe631, hcc631⟩ := Kd.S_get HO_4.out [] x12_3 p631 (by first | exact q631 | exact of_decide_eq_true (by first | (with_reducible assumption) | assumption) | (have e_ := (Kd.S_reads' HO_4.out).1; omega))
                    obtain ⟨ve631_0, rfl, ge631_0⟩ := hMe631
                    have hv631_0 := hcc631 0 _ rfl
                    rw [Nat.add_zero, show ((Kd.slice 3 (Kd.int .i64))).sz = 1 from rfl, Nat.mul_one] at hv631_0
                    replace hv631_0 := Option.some.inj (hv631_0.symm.trans hx631_0)
                    rw [hv631_0] at ge631_0
                    have HL631_0 := Aside0.mk (show Kd.R (Kd.int .i64) 3 _ _ _ _ (rd_L1 x4_1 x12_3) from ge631_0)
                    clear hv631_0 ge631_0
                    have HX631_0 := Aside0.mk hx631_0
                    clear hcc631 hce631
                    have HR631_0 := Aside0.mk hi631_0
                    have HC631_0 := Aside0.mk hl631_0
                    clear hi631_0 hl631_0
                    replace p631 := eq_true p631
                    replace q631 := eq_true q631
                    try go_wp2
                    have n0_ := Aside0.mk (Kd.V_drew HO_3.out)
                    have n1_ := Aside0.mk (Kd.S_drew HO_4.out)
                    have n2_ := Aside0.mk (Kd.N_drew HO_9.out)
                    have n3_ := Aside0.mk (Kd.R_drew HO_11.out)
                    have n4_ := Aside0.mk (Kd.R_drew HL631_0.out)
                    have n5_ := Aside0.mk (Kd.C_drew HR631_0.out)
                    have n6_ := Aside0.mk (below_drew1 HB.out)
                    clear HO_3
                    clear HO_4
                    clear HO_9
                    clear HO_11
                    clear HL631_0
                    clear HR631_0
                    clear HB
                    have HO_3 := n0_
                    have HO_4 := n1_
                    have HO_9 := n2_
                    have HO_11 := n3_
                    have HL631_0 := n4_
                    have HR631_0 := n5_
                    have HB := n6_
                    clear n0_ n1_ n2_ n3_ n4_ n5_ n6_
                    obtain ⟨Ao75, co75, eo75⟩ := Kd.R_slice HO_11.out
                    (first | subst eo75 | (injection eo75 with f1_ f2_ f3_; have f4_ := f1_.symm; have f5_ := f3_.symm; clear f1_ f2_ f3_; subst f4_; subst f5_))
                    have p638 : 0 ≤ (x12_3 : Int) := of_decide_eq_true (by first | (with_reducible assumption) | assumption)
                    have q638 : x12_3 < (x11_4.length : Int) := of_decide_eq_true (by first | (with_reducible assumption) | assumption)
                    obtain ⟨ad638, e638, hx638_0⟩ := Kd.at_bool (Kd.R_reads' HO_11.out).2.2 x12_3 p638 q638
                    cases e638
                    replace p638 := eq_true p638
                    replace q638 := eq_true q638
                    have p639 : 0 ≤ (x12_3 : Int) := of_decide_eq_true (by first | (with_reducible assumption) | assumption)
                    have q639 : x12_3 < (x3_2.length : Int) := of_decide_eq_true (by first | (with_reducible assumption) | assumption)
                    obtain ⟨ad639, e639, hx639_0⟩ := Kd.at_bool (Kd.V_reads' HO_3.out).2.2 x12_3 p639 q639
                    cases e639
                    replace p639 := eq_true p639
                    replace q639 := eq_true q639
                    refine start_ (n := 13) (S := fun w' => w'.cell? (ad638.add (x12_3).toNat) = some (.bool (rdOf false x11_4 x12_3)) ∧ w'.cell? (ad639.add (x12_3).toNat) = some (.bool (rdOf false x3_2 x12_3))) (ds := []) (mkB 13 0) (by kernel_rfl) rfl rfl ⟨hx638_0, hx639_0⟩ (fun hHeld => ?_); refine with_tabW dropperref08_Table.tab25 dropperref08_Table.bits25 (fun HT_ HW_ => ?_)
                    generalize wr.drew = w74 at HO_3 HO_4 HO_9 HO_11 HL631_0 HR631_0 HB hx638_0 hx639_0 hHeld ⊢
                    refine pr_ 0 (some 97) (mkB 13 1) HT_ ?_
                    refine pr_ 1 (some 98) (mkB 13 3) HT_ ?_
                    refine pr_ 2 (some 99) (mkB 13 7) HT_ ?_
                    refine pr_ 3 (some 100) (mkB 13 15) HT_ ?_
                    refine pr_ 4 (some 101) (mkB 13 31) HT_ ?_
                    refine pr_ 6 (some 103) (mkB 13 95) HT_ ?_
                    refine pr_ 7 (some 104) (mkB 13 223) HT_ ?_
                    refine pr_ 8 (some 105) (mkB 13 479) HT_ ?_
                    refine take_ (i := 5) (N := some 102) (v := ?_) (a' := ?_) (mkB 13 511) rfl rfl (take_ofW HT_.out HW_.out (by kernel_rfl)) (fun _ _ _ h => h) (Or.inl ⟨by rfl, ?_⟩) hHeld ?_ ?_
                    rotate_left
                    · rintro w' ⟨s0, s1⟩
                      go_simp
                      with_reducible rfl
                    rotate_left
                    · simp only [Act.put, List.setIfInBounds_toArray, List.set_cons_zero, List.set_cons_succ, i64_w, i32_w]
                      rfl
                    refine take_ (i := 9) (N := some 106) (v := ?_) (a' := ?_) (mkB 13 1023) rfl rfl (take_ofW HT_.out HW_.out (by kernel_rfl)) (fun _ _ _ h => h) (Or.inl ⟨by rfl, ?_⟩) hHeld ?_ ?_
                    rotate_left
                    · rintro w' ⟨s0, s1⟩
                      go_simp
                      with_reducible rfl
                    rotate_left
                    · simp only [Act.put, List.setIfInBounds_toArray, List.set_cons_zero, List.set_cons_succ, i64_w, i32_w]
                      rfl
                    refine pr_ 10 (some 107) (mkB 13 2047) HT_ ?_
                    refine pr_ 11 (some 108) (mkB 13 4095) HT_ ?_
                    refine pr_ 12 (some 10) (mkB 13 8191) HT_ ?_
                    refine done_ (done_of HT_.out (by kernel_rfl)) ?_
                    try go_wp2
                    go_roundg k4
                    case measure => have := HK1.out; have := HK2.out; have := HK3.out; have := HK4.out; omega
                    case rel => exact ⟨(((rdOf false x11_4 x12_3) != (rdOf false x3_2 x12_3))), (x11_4), (wrap64 (x12_3 + 1)), (by first | rfl | (simp; done) | (simp [*]; done)), (by first | rfl | (simp; done) | (simp [*]; done)), H', ⟨by have := HK1.out; have := HK2.out; have := HK3.out; have := HK4.out; omega⟩, ⟨by (try simp only [hl3_1]); (with_reducible repeat (first | apply Kd.V_alloc | apply Kd.V_drewN | apply Kd.V_drew)); exact HO_3.out⟩, ⟨by (try simp only [hl3_1]); (with_reducible repeat (first | apply Kd.S_alloc | apply Kd.S_drewN | apply Kd.S_drew)); exact HO_4.out⟩, ⟨by (try simp only [hl3_1]); (with_reducible repeat (first | apply Kd.N_alloc | apply Kd.N_drewN | apply Kd.N_drew)); exact HO_9.out⟩, ⟨by (try simp only [hl3_1]); (with_reducible repeat (first | apply Kd.R_alloc | apply Kd.R_drewN | apply Kd.R_drew)); exact HO_11.out⟩, ⟨by repeat (first | (with_reducible first | exact HB.out | apply below_alloc | apply pw_below_drewN | apply below_drew1) | exact HB.out)⟩⟩
                  rw [if_pos c51] at H
                  have c51b0 : decide (x13_4 < ((rd_L1 x4_1 x12_3).length : Int)) = true := decide_eq_true c51
                  (try (have c51b0h := c51b0; simp only [hl3_1] at c51b0h))
                  clear c51
                  by_cases c52 : x12_3 < (x11_4.length : Int)
                  rotate_left
                  · rw [if_neg c52] at H
                    exact absurd H (by simp)
                  rw [if_pos c52] at H
                  have c52b0 : decide (x12_3 < (x11_4.length : Int)) = true := decide_eq_true c52
                  (try (have c52b0h := c52b0; simp only [hl3_1] at c52b0h))
                  clear c52
                  obtain ⟨bq53, hbq53⟩ : ∃ b_ : Bool, b_ = (rdOf false x11_4 x12_3) := ⟨_, rfl⟩
                  replace H : (if bq53 = true then (dropperref08_Table.l4 k4 x3_2 x4_1 x9_2 x10_3 (x11_4.set (x12_3 : Int).toNat true) x12_3 (wrap64 (x13_4 + 1))) else (if 0 ≤ x13_4 then (if 0 ≤ (rd (rd_L1 x4_1 x12_3) x13_4) then (if (rd (rd_L1 x4_1 x12_3) x13_4) < (x3_2.length : Int) then (dropperref08_Table.l4 k4 x3_2 x4_1 x9_2 x10_3 (x11_4.set (x12_3 : Int).toNat (rdOf false x3_2 (rd (rd_L1 x4_1 x12_3) x13_4))) x12_3 (wrap64 (x13_4 + 1))) else (none)) else (none)) else (none))) = some r := by rw [← hbq53] at H; exact H
                  have Nbq53 := Aside0.mk hbq53
                  clear hbq53
                  by_cases c54 : bq53 = true
                  · subst c54
                    have H1 : (dropperref08_Table.l4 k4 x3_2 x4_1 x9_2 x10_3 (x11_4.set (x12_3 : Int).toNat true) x12_3 (wrap64 (x13_4 + 1))) = some r := by rw [if_pos rfl] at H; exact H
                    clear H
                    have H := H1
                    clear H1
                    obtain ⟨y633, hy633⟩ : ∃ y_ : List Bool, y_ = (x11_4.set (x12_3 : Int).toNat true) := ⟨_, rfl⟩
                    replace H : (dropperref08_Table.l4 k4 x3_2 x4_1 x9_2 x10_3 y633 x12_3 (wrap64 (x13_4 + 1))) = some r := by first | (rw [hy633]; with_reducible exact H) | (have H2_ := (Option.bind_some _ _).symm.trans H; rw [hy633]; with_reducible exact H2_) | (have H2_ := (Option.bind_some _ _).symm.trans H; with_reducible exact H2_) | with_reducible exact H | (rw [hy633]; exact H) | exact H
                    have Ny633 := Aside0.mk hy633
                    clear hy633
                    have H' := Aside0.mk H
                    clear H
                    obtain ⟨Ao56, co56, eo56⟩ := Kd.S_slice HO_4.out
                    subst eo56
                    have p631 : 0 ≤ (x12_3 : Int) := of_decide_eq_true (by first | (with_reducible assumption) | assumption)
                    have q631 : x12_3 < (x4_1.length : Int) := of_decide_eq_true (by first | (with_reducible assumption) | assumption)
                    obtain ⟨ad631, A631_0, c631_0, e631, hx631_0, hl631_0, hi631_0⟩ := at_L1 (Kd.S_reads' HO_4.out).2.2 x12_3 p631 q631
                    cases e631
                    obtain ⟨ce631, hce631, hMe631, hcc631⟩ := Kd.S_get HO_4.out [] x12_3 p631 (by first | exact q631 | exact of_decide_eq_true (by first | (with_reducible assumption) | assumption) | (have e_ := (Kd.S_reads' HO_4.out).1; omega))
                    obtain ⟨ve631_0, rfl, ge631_0⟩ := hMe631
                    have hv631_0 := hcc631 0 _ rfl
                    rw [Nat.add_zero, show ((Kd.slice 3 (Kd.int .i64))).sz = 1 from rfl, Nat.mul_one] at hv631_0
                    replace hv631_0 := Option.some.inj (hv631_0.symm.trans hx631_0)
                    rw [hv631_0] at ge631_0
                    have HL631_0 := Aside0.mk (show Kd.R (Kd.int .i64) 3 _ _ _ _ (rd_L1 x4_1 x12_3) from ge631_0)
                    clear hv631_0 ge631_0
                    have HX631_0 := Aside0.mk hx631_0
                    clear hcc631 hce631
                    have HR631_0 := Aside0.mk hi631_0
                    have HC631_0 := Aside0.mk hl631_0
                    clear hi631_0 hl631_0
                    replace p631 := eq_true p631
                    replace q631 := eq_true q631
                    obtain ⟨Ao57, co57, eo57⟩ := Kd.R_slice HO_11.out
                    subst eo57
                    have p632 : 0 ≤ (x12_3 : Int) := of_decide_eq_true (by first | (with_reducible assumption) | assumption)
                    have q632 : x12_3 < (x11_4.length : Int) := of_decide_eq_true (by first | (with_reducible assumption) | assumption)
                    obtain ⟨ad632, e632, hx632_0⟩ := Kd.at_bool (Kd.R_reads' HO_11.out).2.2 x12_3 p632 q632
                    (try rw [← Nbq53.out] at hx632_0)
                    cases e632
                    replace p632 := eq_true p632
                    replace q632 := eq_true q632
                    have p55 : 0 ≤ (x12_3 : Int) := of_decide_eq_true (by first | (with_reducible assumption) | assumption)
                    have q55 : (x12_3 : Int) < ((x11_4.length : Int) : Int) := of_decide_eq_true (by first | (with_reducible assumption) | assumption)
                    obtain ⟨go55, co55, eo55, gb55, gl55, cl55, HG55⟩ := Kd.R_form HO_11.out (by omega)
                    (first | cases eo55 | (injection eo55 with ea_ en_ ec_; (first | subst ea_ | (injection ea_ with ea_; subst ea_)); subst ec_; clear en_))
                    have GB55 := Aside0.mk gb55
                    have GG55 := Aside0.mk HG55
                    clear gb55 gl55 HG55
                    (first | simp only [add_plain] at hx632_0 | skip)
                    obtain ⟨hx55_0, hf55_0⟩ := Kd.R_celln false HO_11.out (x12_3 : Int) p55 q55
                    replace p55 := eq_true p55
                    replace q55 := eq_true q55
                    have HP58 := Kd.R_putg HO_11.out (x12_3 : Int) true
                    go_wp2_with (first | ((with_reducible refine gate_store (t := 4) (p := 96) rfl ?_); refine store_event (t := 4) (p := 96) (v := ?vo_w59) (w1 := (wr.setCell ⟨go55, (x12_3 : Int).toNat, none⟩ (.bool true))) ?hg ?ho ?hn ?hr ?_; (case ho => rfl); (case hg => rfl); (case hn => rfl); (case hr => first | (go_simp; done) | (go_simp; rfl)); intro w59 hw; have hg : wr.grownBy w59 (some go55) := (by rw [hw]; exact HP58.2); have hp_ : Kd.R Kd.bool 4 w59 w.heap.size (fun k_ => (w.heap.size ≤ k_)) (.slice (some ⟨go55, 0, none⟩) x11_4.length co57) y633 := (by rw [hw, Ny633.out]; exact HP58.1); clear HP58; have n0_ := Aside0.mk (Kd.V_afterv (v := (.slice (some ⟨go55, 0, none⟩) x11_4.length co57)) (v1 := (.slice (some ⟨go55, 0, none⟩) x11_4.length co57)) (ok := (fun k_ => (w.heap.size ≤ k_) ∧ some k_ ≠ (.slice (some ad631) x4_1.length co56 : Value).ownBlock ∧ some k_ ≠ (u9 : Value).ownBlock)) (by (with_reducible repeat (first | apply Kd.V_alloc | apply Kd.V_drewN | apply Kd.V_drew)); exact Kd.V_mono HO_3.out (fun _ hk => ⟨⟨hk.1, ⟨hk.2.1, hk.2.2.1⟩⟩, hk.2.2.2⟩)) hg (.inl rfl)); have n1_ := Aside0.mk (Kd.S_over' (v := (.slice (some ⟨go55, 0, none⟩) x11_4.length co57)) (by (with_reducible repeat (first | apply Kd.S_alloc | apply Kd.S_drewN | apply Kd.S_drew)); exact HO_4.out) (Kd.R_typed HO_11.out) (by decide) hg); have n2_ := Aside0.mk (Kd.N_afterv (v := (.slice (some ⟨go55, 0, none⟩) x11_4.length co57)) (v1 := (.slice (some ⟨go55, 0, none⟩) x11_4.length co57)) (ok := (fun k_ => (w.heap.size ≤ k_) ∧ some k_ ≠ (.slice (some ad631) x4_1.length co56 : Value).ownBlock)) (by (with_reducible repeat (first | apply Kd.N_alloc | apply Kd.N_drewN | apply Kd.N_drew)); exact Kd.N_mono HO_9.out (fun _ hk => ⟨⟨hk.1, hk.2.1⟩, hk.2.2⟩)) hg (.inl rfl)); have n3_ := Aside0.mk (hp_); have n4_ := Aside0.mk (Kd.R_over' (v := (.slice (some ⟨go55, 0, none⟩) x11_4.length co57)) (by (with_reducible repeat (first | apply Kd.R_alloc | apply Kd.R_drewN | apply Kd.R_drew)); exact HL631_0.out) (Kd.R_typed HO_11.out) (by decide) hg); have n5_ := Aside0.mk ((by rw [hw]; exact below_set (HB.out) GB55.out : Below w.heap.size w w59)); clear HO_3; clear HO_4; clear HO_9; clear HO_11; clear HL631_0; clear HB; have HO_3 := n0_; have HO_4 := n1_; have HO_9 := n2_; have HO_11 := n3_; have HL631_0 := n4_; have HB := n5_; clear n0_ n1_ n2_ n3_ n4_ n5_; clear hg hw hp_))
                    go_roundg k4
                    case measure => have := HK1.out; have := HK2.out; have := HK3.out; have := HK4.out; omega
                    case rel => exact ⟨(y633), (wrap64 (x13_4 + 1)), (by first | rfl | (simp; done) | (simp [*]; done)), H', ⟨by have := HK1.out; have := HK2.out; have := HK3.out; have := HK4.out; omega⟩, ⟨by (try simp only [hl3_1]); (with_reducible repeat (first | apply Kd.V_alloc | apply Kd.V_drewN | apply Kd.V_drew)); exact Kd.V_mono HO_3.out (fun _ hk => ⟨hk.1.1, ⟨hk.1.2.1, ⟨hk.1.2.2, hk.2⟩⟩⟩)⟩, ⟨by (try simp only [hl3_1]); (with_reducible repeat (first | apply Kd.S_alloc | apply Kd.S_drewN | apply Kd.S_drew)); exact HO_4.out⟩, ⟨by (try simp only [hl3_1]); (with_reducible repeat (first | apply Kd.N_alloc | apply Kd.N_drewN | apply Kd.N_drew)); exact Kd.N_mono HO_9.out (fun _ hk => ⟨hk.1.1, ⟨hk.1.2, hk.2⟩⟩)⟩, ⟨by (try simp only [hl3_1]); (with_reducible repeat (first | apply Kd.R_alloc | apply Kd.R_drewN | apply Kd.R_drew)); exact HO_11.out⟩, ⟨by repeat (first | (with_reducible first | exact HB.out | apply below_alloc | apply pw_below_drewN | apply below_drew1) | exact HB.out)⟩⟩
                  replace c54 := Bool.eq_false_iff.mpr c54
                  subst c54
                  have H1 : (if 0 ≤ x13_4 then (if 0 ≤ (rd (rd_L1 x4_1 x12_3) x13_4) then (if (rd (rd_L1 x4_1 x12_3) x13_4) < (x3_2.length : Int) then (dropperref08_Table.l4 k4 x3_2 x4_1 x9_2 x10_3 (x11_4.set (x12_3 : Int).toNat (rdOf false x3_2 (rd (rd_L1 x4_1 x12_3) x13_4))) x12_3 (wrap64 (x13_4 + 1))) else (none)) else (none)) else (none)) = some r := by rw [if_neg (show ¬ (false = true) by decide)] at H; exact H
                  clear H
                  have H := H1
                  clear H1
                  by_cases c60 : 0 ≤ x13_4
                  rotate_left
                  · rw [if_neg c60] at H
                    exact absurd H (by simp)
                  rw [if_pos c60] at H
                  have c60b0 : decide (0 ≤ x13_4) = true := decide_eq_true c60
                  clear c60
                  by_cases c61 : 0 ≤ (rd (rd_L1 x4_1 x12_3) x13_4)
                  rotate_left
                  · rw [if_neg c61] at H
                    exact absurd H (by simp)
                  rw [if_pos c61] at H
                  have c61b0 : decide (0 ≤ (rd (rd_L1 x4_1 x12_3) x13_4)) = true := decide_eq_true c61
                  clear c61
                  by_cases c62 : (rd (rd_L1 x4_1 x12_3) x13_4) < (x3_2.length : Int)
                  rotate_left
                  · rw [if_neg c62] at H
                    exact absurd H (by simp)
                  rw [if_pos c62] at H
                  have c62b0 : decide ((rd (rd_L1 x4_1 x12_3) x13_4) < (x3_2.length : Int)) = true := decide_eq_true c62
                  (try (have c62b0h := c62b0; simp only [hl3_1] at c62b0h))
                  clear c62
                  obtain ⟨y637, hy637⟩ : ∃ y_ : List Bool, y_ = (x11_4.set (x12_3 : Int).toNat (rdOf false x3_2 (rd (rd_L1 x4_1 x12_3) x13_4))) := ⟨_, rfl⟩
                  replace H : (dropperref08_Table.l4 k4 x3_2 x4_1 x9_2 x10_3 y637 x12_3 (wrap64 (x13_4 + 1))) = some r := by first | (rw [hy637]; with_reducible exact H) | (have H2_ := (Option.bind_some _ _).symm.trans H; rw [hy637]; with_reducible exact H2_) | (have H2_ := (Option.bind_some _ _).symm.trans H; with_reducible exact H2_) | with_reducible exact H | (rw [hy637]; exact H) | exact H
                  have Ny637 := Aside0.mk hy637
                  clear hy637
                  have H' := Aside0.mk H
                  clear H
                  obtain ⟨Ao64, co64, eo64⟩ := Kd.S_slice HO_4.out
                  subst eo64
                  have p631 : 0 ≤ (x12_3 : Int) := of_decide_eq_true (by first | (with_reducible assumption) | assumption)
                  have q631 : x12_3 < (x4_1.length : Int) := of_decide_eq_true (by first | (with_reducible assumption) | assumption)
                  obtain ⟨ad631, A631_0, c631_0, e631, hx631_0, hl631_0, hi631_0⟩ := at_L1 (Kd.S_reads' HO_4.out).2.2 x12_3 p631 q631
                  cases e631
                  obtain ⟨ce631, hce631, hMe631, hcc631⟩ := Kd.S_get HO_4.out [] x12_3 p631 (by first | exact q631 | exact of_decide_eq_true (by first | (with_reducible assumption) | assumption) | (have e_ := (Kd.S_reads' HO_4.out).1; omega))
                  obtain ⟨ve631_0, rfl, ge631_0⟩ := hMe631
                  have hv631_0 := hcc631 0 _ rfl
                  rw [Nat.add_zero, show ((Kd.slice 3 (Kd.int .i64))).sz = 1 from rfl, Nat.mul_one] at hv631_0
                  replace hv631_0 := Option.some.inj (hv631_0.symm.trans hx631_0)
                  rw [hv631_0] at ge631_0
                  have HL631_0 := Aside0.mk (show Kd.R (Kd.int .i64) 3 _ _ _ _ (rd_L1 x4_1 x12_3) from ge631_0)
                  clear hv631_0 ge631_0
                  have HX631_0 := Aside0.mk hx631_0
                  clear hcc631 hce631
                  have HR631_0 := Aside0.mk hi631_0
                  have HC631_0 := Aside0.mk hl631_0
                  clear hi631_0 hl631_0
                  replace p631 := eq_true p631
                  replace q631 := eq_true q631
                  obtain ⟨Ao65, co65, eo65⟩ := Kd.R_slice HO_11.out
                  subst eo65
                  have p632 : 0 ≤ (x12_3 : Int) := of_decide_eq_true (by first | (with_reducible assumption) | assumption)
                  have q632 : x12_3 < (x11_4.length : Int) := of_decide_eq_true (by first | (with_reducible assumption) | assumption)
                  obtain ⟨ad632, e632, hx632_0⟩ := Kd.at_bool (Kd.R_reads' HO_11.out).2.2 x12_3 p632 q632
                  (try rw [← Nbq53.out] at hx632_0)
                  cases e632
                  replace p632 := eq_true p632
                  replace q632 := eq_true q632
                  have p634 : 0 ≤ (x12_3 : Int) := of_decide_eq_true (by first | (with_reducible assumption) | assumption)
                  have q634 : x12_3 < (x4_1.length : Int) := of_decide_eq_true (by first | (with_reducible assumption) | assumption)
                  obtain ⟨ad634, A634_0, c634_0, e634, hx634_0, hl634_0, hi634_0⟩ := at_L1 (Kd.S_reads' HO_4.out).2.2 x12_3 p634 q634
                  obtain rfl : ad631 = ad634 := (by injection e634)
                  obtain ⟨ce634, hce634, hMe634, hcc634⟩ := Kd.S_get HO_4.out [] x12_3 p634 (by first | exact q634 | exact of_decide_eq_true (by first | (with_reducible assumption) | assumption) | (have e_ := (Kd.S_reads' HO_4.out).1; omega))
                  obtain ⟨ve634_0, rfl, ge634_0⟩ := hMe634
                  have hv634_0 := hcc634 0 _ rfl
                  rw [Nat.add_zero, show ((Kd.slice 3 (Kd.int .i64))).sz = 1 from rfl, Nat.mul_one] at hv634_0
                  replace hv634_0 := Option.some.inj (hv634_0.symm.trans hx634_0)
                  rw [hv634_0] at ge634_0
                  have HL634_0 := Aside0.mk (show Kd.R (Kd.int .i64) 3 _ _ _ _ (rd_L1 x4_1 x12_3) from ge634_0)
                  clear hv634_0 ge634_0
                  have HX634_0 := Aside0.mk hx634_0
                  clear hcc634 hce634
                  have HR634_0 := Aside0.mk hi634_0
                  have HC634_0 := Aside0.mk hl634_0
                  clear hi634_0 hl634_0
                  replace p634 := eq_true p634
                  replace q634 := eq_true q634
                  have ea_ := Option.some.inj (hx631_0.symm.trans hx634_0)
                  injection ea_ with ea_ en_ ec_
                  subst ea_
                  subst ec_
                  clear en_
                  have p635 : 0 ≤ (x13_4 : Int) := of_decide_eq_true (by first | (with_reducible assumption) | assumption)
                  have q635 : x13_4 < ((rd_L1 x4_1 x12_3).length : Int) := of_decide_eq_true (by first | (with_reducible assumption) | assumption)
                  obtain ⟨ad635, e635, hx635_0⟩ := Kd.at_int (by repeat (first | (with_reducible exact HR634_0.out) | (with_reducible refine Kd.C_alloc ?_ _) | (with_reducible refine Kd.C_drewN ?_ _) | (with_reducible refine Kd.C_drew ?_) | exact HR634_0.out)) x13_4 p635 q635
                  cases e635
                  replace p635 := eq_true p635
                  replace q635 := eq_true q635
                  have p636 : 0 ≤ ((rd (rd_L1 x4_1 x12_3) x13_4) : Int) := of_decide_eq_true (by first | (with_reducible assumption) | assumption)
                  have q636 : (rd (rd_L1 x4_1 x12_3) x13_4) < (x3_2.length : Int) := of_decide_eq_true (by first | (with_reducible assumption) | assumption)
                  obtain ⟨ad636, e636, hx636_0⟩ := Kd.at_bool (Kd.V_reads' HO_3.out).2.2 (rd (rd_L1 x4_1 x12_3) x13_4) p636 q636
                  (try rw [← Nbq53.out] at hx636_0)
                  cases e636
                  replace p636 := eq_true p636
                  replace q636 := eq_true q636
                  have p63 : 0 ≤ (x12_3 : Int) := of_decide_eq_true (by first | (with_reducible assumption) | assumption)
                  have q63 : (x12_3 : Int) < ((x11_4.length : Int) : Int) := of_decide_eq_true (by first | (with_reducible assumption) | assumption)
                  obtain ⟨go63, co63, eo63, gb63, gl63, cl63, HG63⟩ := Kd.R_form HO_11.out (by omega)
                  (first | cases eo63 | (injection eo63 with ea_ en_ ec_; (first | subst ea_ | (injection ea_ with ea_; subst ea_)); subst ec_; clear en_))
                  have GB63 := Aside0.mk gb63
                  have GG63 := Aside0.mk HG63
                  clear gb63 gl63 HG63
                  (first | simp only [add_plain] at hx632_0 | skip)
                  obtain ⟨hx63_0, hf63_0⟩ := Kd.R_celln false HO_11.out (x12_3 : Int) p63 q63
                  replace p63 := eq_true p63
                  replace q63 := eq_true q63
                  have HP66 := Kd.R_putg HO_11.out (x12_3 : Int) (rdOf false x3_2 (rd (rd_L1 x4_1 x12_3) x13_4))
                  go_wp2_with (first | ((with_reducible refine gate_store (t := 4) (p := 96) rfl ?_); refine store_event (t := 4) (p := 96) (v := ?vo_w67) (w1 := (wr.setCell ⟨go63, (x12_3 : Int).toNat, none⟩ (.bool (rdOf false x3_2 (rd (rd_L1 x4_1 x12_3) x13_4))))) ?hg ?ho ?hn ?hr ?_; (case ho => rfl); (case hg => rfl); (case hn => rfl); (case hr => first | (go_simp; done) | (go_simp; rfl)); intro w67 hw; have hg : wr.grownBy w67 (some go63) := (by rw [hw]; exact HP66.2); have hp_ : Kd.R Kd.bool 4 w67 w.heap.size (fun k_ => (w.heap.size ≤ k_)) (.slice (some ⟨go63, 0, none⟩) x11_4.length co65) y637 := (by rw [hw, Ny637.out]; exact HP66.1); clear HP66; have n0_ := Aside0.mk (Kd.V_afterv (v := (.slice (some ⟨go63, 0, none⟩) x11_4.length co65)) (v1 := (.slice (some ⟨go63, 0, none⟩) x11_4.length co65)) (ok := (fun k_ => (w.heap.size ≤ k_) ∧ some k_ ≠ (.slice (some ad631) x4_1.length co64 : Value).ownBlock ∧ some k_ ≠ (u9 : Value).ownBlock)) (by (with_reducible repeat (first | apply Kd.V_alloc | apply Kd.V_drewN | apply Kd.V_drew)); exact Kd.V_mono HO_3.out (fun _ hk => ⟨⟨hk.1, ⟨hk.2.1, hk.2.2.1⟩⟩, hk.2.2.2⟩)) hg (.inl rfl)); have n1_ := Aside0.mk (Kd.S_over' (v := (.slice (some ⟨go63, 0, none⟩) x11_4.length co65)) (by (with_reducible repeat (first | apply Kd.S_alloc | apply Kd.S_drewN | apply Kd.S_drew)); exact HO_4.out) (Kd.R_typed HO_11.out) (by decide) hg); have n2_ := Aside0.mk (Kd.N_afterv (v := (.slice (some ⟨go63, 0, none⟩) x11_4.length co65)) (v1 := (.slice (some ⟨go63, 0, none⟩) x11_4.length co65)) (ok := (fun k_ => (w.heap.size ≤ k_) ∧ some k_ ≠ (.slice (some ad631) x4_1.length co64 : Value).ownBlock)) (by (with_reducible repeat (first | apply Kd.N_alloc | apply Kd.N_drewN | apply Kd.N_drew)); exact Kd.N_mono HO_9.out (fun _ hk => ⟨⟨hk.1, hk.2.1⟩, hk.2.2⟩)) hg (.inl rfl)); have n3_ := Aside0.mk (hp_); have n4_ := Aside0.mk (Kd.R_over' (v := (.slice (some ⟨go63, 0, none⟩) x11_4.length co65)) (by (with_reducible repeat (first | apply Kd.R_alloc | apply Kd.R_drewN | apply Kd.R_drew)); exact HL631_0.out) (Kd.R_typed HO_11.out) (by decide) hg); have n5_ := Aside0.mk (Kd.R_over' (v := (.slice (some ⟨go63, 0, none⟩) x11_4.length co65)) (by (with_reducible repeat (first | apply Kd.R_alloc | apply Kd.R_drewN | apply Kd.R_drew)); exact HL634_0.out) (Kd.R_typed HO_11.out) (by decide) hg); have n6_ := Aside0.mk ((by rw [hw]; exact below_set (HB.out) GB63.out : Below w.heap.size w w67)); clear HO_3; clear HO_4; clear HO_9; clear HO_11; clear HL631_0; clear HL634_0; clear HB; have HO_3 := n0_; have HO_4 := n1_; have HO_9 := n2_; have HO_11 := n3_; have HL631_0 := n4_; have HL634_0 := n5_; have HB := n6_; clear n0_ n1_ n2_ n3_ n4_ n5_ n6_; clear hg hw hp_))
                  go_roundg k4
                  case measure => have := HK1.out; have := HK2.out; have := HK3.out; have := HK4.out; omega
                  case rel => exact ⟨(y637), (wrap64 (x13_4 + 1)), (by first | rfl | (simp; done) | (simp [*]; done)), H', ⟨by have := HK1.out; have := HK2.out; have := HK3.out; have := HK4.out; omega⟩, ⟨by (try simp only [hl3_1]); (with_reducible repeat (first | apply Kd.V_alloc | apply Kd.V_drewN | apply Kd.V_drew)); exact Kd.V_mono HO_3.out (fun _ hk => ⟨hk.1.1, ⟨hk.1.2.1, ⟨hk.1.2.2, hk.2⟩⟩⟩)⟩, ⟨by (try simp only [hl3_1]); (with_reducible repeat (first | apply Kd.S_alloc | apply Kd.S_drewN | apply Kd.S_drew)); exact HO_4.out⟩, ⟨by (try simp only [hl3_1]); (with_reducible repeat (first | apply Kd.N_alloc | apply Kd.N_drewN | apply Kd.N_drew)); exact Kd.N_mono HO_9.out (fun _ hk => ⟨hk.1.1, ⟨hk.1.2, hk.2⟩⟩)⟩, ⟨by (try simp only [hl3_1]); (with_reducible repeat (first | apply Kd.R_alloc | apply Kd.R_drewN | apply Kd.R_drew)); exact HO_11.out⟩, ⟨by repeat (first | (with_reducible first | exact HB.out | apply below_alloc | apply pw_below_drewN | apply below_drew1) | exact HB.out)⟩⟩
end Go.Proofs.Ythbpibdfookbmaa.G
end
