-- Written by this session's driver (wip/tools/printmore.py) over the kit's print, with hand-written parts.
import Derived.Test.YtiapmkndgalgnaaGBase
import Derived.Test.YtiapmkndgalgnaaGF23
import Derived.Test.YtiapmkndgalgnaaGF58
namespace Go.Proofs.Ytiapmkndgalgnaa.G
open Go.RowKit Go.Proofs.YtiapmkndgalgnaaW.PrintWords Go.Proofs.YtiapmkndgalgnaaW.PrintLast Go.Proofs.YtiapmkndgalgnaaW.PrintMore
attribute [local go_sem] max2_int min2_int max_two min_two max_three min_three max_four min_four   -- for this text's walks alone
set_option linter.unusedVariables false
set_option linter.unusedSimpArgs false

/-! ### arm_ArePieces: function 29 -/
mutual
def arm_ArePieces.j0 : Nat → List (S73) → List Int → Bool → Option (Bool × Int)
 | 0, _, _, _ => none
 | k + 1, x0, x1, x31 => if x31 = true then (some (false, 0)) else (arm_ArePieces.l0 k x0 x1 x1 (x1.length : Int) 0)
def arm_ArePieces.l0 : Nat → List (S73) → List Int → List Int → Int → Int → Option (Bool × Int)
 | 0, _, _, _, _, _ => none
 | k + 1, x0, x1, x32, x33, x34 => if x34 < x33 then (if 0 ≤ x34 then (if x34 < (x32.length : Int) then (if (wrap64 (x34 + 1)) < (x1.length : Int) then (if 0 ≤ (wrap64 (x34 + 1)) then (if (rd x32 x34) < 0 then (some (false, 0)) else (if (rd x32 x34) ≥ (rd x1 (wrap64 (x34 + 1))) then (some (false, 0)) else (if (rd x1 (wrap64 (x34 + 1))) > (x0.length : Int) then (some (false, 0)) else (if 0 ≤ (rd x32 x34) then (if (rd x32 x34) ≤ (rd x1 (wrap64 (x34 + 1))) then (if (rd x1 (wrap64 (x34 + 1))) ≤ (x0.length : Int) then ((arm_can.f k ((x0.take ((rd x1 (wrap64 (x34 + 1))) : Int).toNat).drop ((rd x32 x34) : Int).toNat)).bind fun t110 => (if t110 = true then (arm_ArePieces.l0 k x0 x1 x32 x33 (wrap64 (x34 + 1))) else (some (false, 0)))) else (none)) else (none)) else (none))))) else (none)) else (if (rd x32 x34) < 0 then (some (false, 0)) else (if (rd x32 x34) ≥ (x0.length : Int) then (some (false, 0)) else (if (x0.length : Int) > (x0.length : Int) then (some (false, 0)) else (if 0 ≤ (rd x32 x34) then (if (rd x32 x34) ≤ (x0.length : Int) then (if (x0.length : Int) ≤ (x0.length : Int) then ((arm_can.f k ((x0.take ((x0.length : Int) : Int).toNat).drop ((rd x32 x34) : Int).toNat)).bind fun t115 => (if t115 = true then (arm_ArePieces.l0 k x0 x1 x32 x33 (wrap64 (x34 + 1))) else (some (false, 0)))) else (none)) else (none)) else (none)))))) else (none)) else (none)) else (some (true, 0))
end
def arm_ArePieces.f (k : Nat) (l0 : List (S73)) (l1 : List Int) : Option (Bool × Int) := (arm_Valid.f k l0).bind fun t101 => (if t101 = true then (if (l1.length : Int) = 0 then (arm_ArePieces.j0 k l0 l1 true) else (if 0 < (l1.length : Int) then (if (rd l1 0) = 0 then (if 0 ≤ (wrap64 ((l1.length : Int) - 1)) then (if (wrap64 ((l1.length : Int) - 1)) < (l1.length : Int) then (arm_ArePieces.j0 k l0 l1 (decide ((rd l1 (wrap64 ((l1.length : Int) - 1))) ≥ (l0.length : Int)))) else (none)) else (none)) else (arm_ArePieces.j0 k l0 l1 true)) else (none))) else (some (false, 20)))
theorem arm_ArePieces.mono_l : ∀ k, (∀ y0 y1 y2, LeO (arm_ArePieces.j0 k y0 y1 y2) (arm_ArePieces.j0 (k + 1) y0 y1 y2)) ∧ (∀ y0 y1 y2 y3 y4, LeO (arm_ArePieces.l0 k y0 y1 y2 y3 y4) (arm_ArePieces.l0 (k + 1) y0 y1 y2 y3 y4))
 | 0 => ⟨fun _ _ _ r h => by simp [arm_ArePieces.j0] at h, fun _ _ _ _ _ r h => by simp [arm_ArePieces.l0] at h⟩
 | k + 1 => by
  obtain ⟨ih0, ih1⟩ := arm_ArePieces.mono_l k
  refine ⟨?_, ?_⟩
  ·intro y0 y1 y2
   unfold arm_ArePieces.j0
   repeat' first
   | (with_reducible exact ih0 _ _ _)
   | (with_reducible exact ih1 _ _ _ _ _)
   | (with_reducible exact arm_Valid.mono _ _)
   | (with_reducible exact arm_can.mono _ _)
   | (with_reducible exact LeO.refl _)
   | (with_reducible exact LeO.none _)
   | (with_reducible refine LeO.ite ?_ ?_)
   | (with_reducible refine LeO.bind ?_ (fun _ => ?_))
   | exact ih0 _ _ _
   | exact ih1 _ _ _ _ _
   | exact arm_Valid.mono _ _
   | exact arm_can.mono _ _
   | exact LeO.none _
   | refine LeO.ite ?_ ?_
   | refine LeO.bind ?_ (fun _ => ?_)
  ·intro y0 y1 y2 y3 y4
   unfold arm_ArePieces.l0
   repeat' first
   | (with_reducible exact ih0 _ _ _)
   | (with_reducible exact ih1 _ _ _ _ _)
   | (with_reducible exact arm_Valid.mono _ _)
   | (with_reducible exact arm_can.mono _ _)
   | (with_reducible exact LeO.refl _)
   | (with_reducible exact LeO.none _)
   | (with_reducible refine LeO.ite ?_ ?_)
   | (with_reducible refine LeO.bind ?_ (fun _ => ?_))
   | exact ih0 _ _ _
   | exact ih1 _ _ _ _ _
   | exact arm_Valid.mono _ _
   | exact arm_can.mono _ _
   | exact LeO.none _
   | refine LeO.ite ?_ ?_
   | refine LeO.bind ?_ (fun _ => ?_)
theorem arm_ArePieces.mono : ∀ a0 a1 k, LeO (arm_ArePieces.f k a0 a1) (arm_ArePieces.f (k + 1) a0 a1) := by
 intro a0 a1 k
 obtain ⟨ih0, ih1⟩ := arm_ArePieces.mono_l k
 unfold arm_ArePieces.f
 repeat' first
   | (with_reducible exact ih0 _ _ _)
   | (with_reducible exact ih1 _ _ _ _ _)
   | (with_reducible exact arm_Valid.mono _ _)
   | (with_reducible exact arm_can.mono _ _)
   | (with_reducible exact LeO.refl _)
   | (with_reducible exact LeO.none _)
   | (with_reducible refine LeO.ite ?_ ?_)
   | (with_reducible refine LeO.bind ?_ (fun _ => ?_))
   | exact ih0 _ _ _
   | exact ih1 _ _ _ _ _
   | exact arm_Valid.mono _ _
   | exact arm_can.mono _ _
   | exact LeO.none _
   | refine LeO.ite ?_ ?_
   | refine LeO.bind ?_ (fun _ => ?_)
set_option maxHeartbeats 8000000 in
set_option maxRecDepth 100000 in
theorem arm_ArePieces.calls (k : Nat) (A0 : Option Addr) (c0 : Nat) (l0 : List (S73)) (A1 : Option Addr) (c1 : Nat) (l1 : List Int) (r1 : Bool) (r2 : Int) (w : World) (hr0 : Kd.C k73 w A0 l0.length l0) (hc0 : l0.length ≤ c0) (hr1 : Kd.C (Kd.int .i64) w A1 l1.length l1) (hc1 : l1.length ≤ c1) (h : arm_ArePieces.f k l0 l1 = some (r1, r2)) :
  Calls Try.prog 29 #[.slice A0 l0.length c0, .slice A1 l1.length c1] w fun e w' => e = .returned (.tuple #[.bool r1, .int .i64 r2]) ∧ Below w.heap.size w w' := by
 have HR0 := A_ hr0; have HC0 := A_ hc0; clear hr0 hc0; have HR1 := A_ hr1; have HC1 := A_ hc1; clear hr1 hc1; have HB := A_ (Below.refl w.heap.size w)
 have H : ((arm_Valid.f k l0).bind fun t101 => (if t101 = true then (if (l1.length : Int) = 0 then (arm_ArePieces.j0 k l0 l1 true) else (if 0 < (l1.length : Int) then (if (rd l1 0) = 0 then (if 0 ≤ (wrap64 ((l1.length : Int) - 1)) then (if (wrap64 ((l1.length : Int) - 1)) < (l1.length : Int) then (arm_ArePieces.j0 k l0 l1 (decide ((rd l1 (wrap64 ((l1.length : Int) - 1))) ≥ (l0.length : Int)))) else (none)) else (none)) else (arm_ArePieces.j0 k l0 l1 true)) else (none))) else (some (false, 20)))) = some (r1, r2) := h
 clear h; replace H := Option.bind_eq_some_iff.mp H; obtain ⟨t101, A30, H⟩ := H; (try dsimp only at H); have A3 := A_ A30; clear A30; by_cases c4 : t101 = true; rotate_left
 ·replace c4 := Bool.eq_false_iff.mpr c4
  subst c4; rw [if_neg (show ¬ (false = true) by decide)] at H; simp only [Option.some.injEq, Prod.mk.injEq] at H; obtain ⟨rfl, rfl⟩ := H
  go_enter Try.func29, Try.ntmps29
  go_wp2_with (first | ((with_reducible refine gate_callee (f := 23) rfl ?_); refine goesW_ (some 10) Try.func23 #[.slice A0 l0.length c0] ?_; (with_reducible refine (arm_Valid.calls k _ _ l0 false _ ?side1 ?side2 A3.out).mono ?_); (case side1 => exact cU HR0.out); (case side2 => exact HC0.out); rintro e w44 ⟨rfl, hb⟩; refine ⟨_, rfl, ?_⟩; have n0_ := A_ (below_step (bW0 HB.out) hb); clear HB; have HB := n0_; clear n0_; (try clear hb)))
  go_ret2
  exact ⟨eQ, by repeat (first | (with_reducible first | exact HB.out | apply below_alloc | apply pw_below_drewN | apply below_drew1) | exact HB.out)⟩

 subst c4; rw [if_pos rfl] at H; have HC5 := A_ H; clear H
 go_enter Try.func29, Try.ntmps29
 go_upto_region 3 with (first | ((with_reducible refine gate_callee (f := 23) rfl ?_); refine goesW_ (some 10) Try.func23 #[.slice A0 l0.length c0] ?_; (with_reducible refine (arm_Valid.calls k _ _ l0 true _ ?side1 ?side2 A3.out).mono ?_); (case side1 => exact cU HR0.out); (case side2 => exact HC0.out); rintro e w6 ⟨rfl, hb⟩; refine ⟨_, rfl, ?_⟩; have n0_ := A_ (below_step (bW0 HB.out) hb); clear HB; have HB := n0_; clear n0_; (try clear hb)))
 (try simp only [Act.put, List.setIfInBounds_toArray, List.set_cons_zero, List.set_cons_succ])
 go_cut [31] (fun v31 wc => ∃ (kq : Nat) (x31_4 : Bool), v31 = .bool x31_4 ∧ Aside0 (arm_ArePieces.j0 kq l0 l1 x31_4 = some (r1, r2)) ∧ Aside0 (kq ≤ k) ∧ Aside0 (Below w.heap.size w wc))
 case first =>
  have H := HC5.out; clear HC5; by_cases c7 : (l1.length : Int) = 0
  ·rw [if_pos c7] at H
   have c7b0 : ((l1.length : Int) == 0) = true := beq_iff_eq.mpr c7; have c7b1 : ((l1.length : Int) != 0) = false := bne_eq_false_iff_eq.mpr c7; clear c7
   (first | rw [c7b0] | (simp only [i64_w, i32_w]; rw [c7b0]) | skip)
   have H' := A_ H; clear H
   go_wp2
   go_meet
   case rel => exact ⟨_, (true), eS, H', ⟨by first | omega | exact Nat.le_refl _⟩, ⟨by repeat (first | (with_reducible first | exact HB.out | apply below_alloc | apply pw_below_drewN | apply below_drew1) | exact HB.out)⟩⟩
  rw [if_neg c7] at H; have c7b0 : ((l1.length : Int) == 0) = false := beq_eq_false_iff_ne.mpr c7; have c7b1 : ((l1.length : Int) != 0) = true := bne_iff_ne.mpr c7
  have c7b2 : ¬ (l1 = []) := fun h_ => c7 (by rw [h_]; rfl)
  (first | rw [c7b0] | (simp only [i64_w, i32_w]; rw [c7b0]) | skip)
  by_cases c8 : 0 < (l1.length : Int); rotate_left
  ·rw [if_neg c8] at H
   exact absurd H (by simp)
  rw [if_pos c8] at H; have c8b0 : decide (0 < (l1.length : Int)) = true := decide_eq_true c8
  have c8b1 : decide (0 < l1.length) = true := decide_eq_true (by omega)
  clear c8; by_cases c9 : (rd l1 0) = 0; rotate_left
  ·rw [if_neg c9] at H
   have c9b0 : ((rd l1 0) == 0) = false := beq_eq_false_iff_ne.mpr c9; have c9b1 : ((rd l1 0) != 0) = true := bne_iff_ne.mpr c9; have H' := A_ H; clear H
   have p102 : 0 ≤ (0 : Int) := (by omega)
   have q102 : 0 < (l1.length : Int) := oD; obtain ⟨ad102, e102, hx102_0⟩ := Kd.at_int HR1.out 0 p102 q102
   cases e102
   have qi102 : (0 < l1.length) = True := eq_true (by omega)
   (try rw [show ((0 : Int)).toNat = 0 from rfl] at hx102_0)
   (try rw [Addr.add_zero'] at hx102_0)
   replace hx102_0 := (HB.out.cell (World.block_lt_of_cell? w _ hx102_0)).trans hx102_0; replace p102 := eq_true p102; replace q102 := eq_true q102
   go_wp2
   go_meet
   case rel => exact ⟨_, (true), eS, H', ⟨by first | omega | exact Nat.le_refl _⟩, ⟨by repeat (first | (with_reducible first | exact HB.out | apply below_alloc | apply pw_below_drewN | apply below_drew1) | exact HB.out)⟩⟩
  rw [if_pos c9] at H; have c9b0 : ((rd l1 0) == 0) = true := beq_iff_eq.mpr c9; have c9b1 : ((rd l1 0) != 0) = false := bne_eq_false_iff_eq.mpr c9; clear c9; obtain ⟨ji10, hji10⟩ : ∃ j_ : Int, (wrap64 ((l1.length : Int) - 1)) = j_ := ⟨_, rfl⟩
  replace H : (if 0 ≤ (ji10) then (if (ji10) < (l1.length : Int) then (arm_ArePieces.j0 k l0 l1 (decide ((rd l1 (ji10)) ≥ (l0.length : Int)))) else (none)) else (none)) = some (r1, r2) := by first | (rw [hji10] at H; exact H) | (simp only [hji10] at H ⊢; exact H)
  have hji10w : (IntKind.i64.wrap ((l1.length : Int) - 1)) = ji10 := (i64_w _).trans hji10; by_cases c11 : 0 ≤ (ji10); rotate_left
  ·rw [if_neg c11] at H
   exact absurd H (by simp)
  rw [if_pos c11] at H; have c11b0 : decide (0 ≤ (ji10)) = true := decide_eq_true c11; clear c11; by_cases c12 : (ji10) < (l1.length : Int); rotate_left
  ·rw [if_neg c12] at H
   exact absurd H (by simp)
  rw [if_pos c12] at H; have c12b0 : decide ((ji10) < (l1.length : Int)) = true := decide_eq_true c12; clear c12; have H' := A_ H; clear H
  have p102 : 0 ≤ (0 : Int) := (by omega)
  have q102 : 0 < (l1.length : Int) := oD; obtain ⟨ad102, e102, hx102_0⟩ := Kd.at_int HR1.out 0 p102 q102
  cases e102
  have qi102 : (0 < l1.length) = True := eq_true (by omega)
  (try rw [show ((0 : Int)).toNat = 0 from rfl] at hx102_0)
  (try rw [Addr.add_zero'] at hx102_0)
  replace hx102_0 := (HB.out.cell (World.block_lt_of_cell? w _ hx102_0)).trans hx102_0; replace p102 := eq_true p102; replace q102 := eq_true q102; have p103 : 0 ≤ ((ji10) : Int) := oD; have q103 : (ji10) < (l1.length : Int) := oD; obtain ⟨ad103, e103, hx103_0⟩ := Kd.at_int HR1.out (ji10) p103 q103
  obtain rfl : ad102 = ad103 := (by injection e103)
  replace hx103_0 := (HB.out.cell (World.block_lt_of_cell? w _ hx103_0)).trans hx103_0; replace p103 := eq_true p103; replace q103 := eq_true q103
  go_wp2
  go_meet
  case rel => exact ⟨_, (decide ((rd l1 (ji10)) ≥ (l0.length : Int))), (by first | rfl | (simp; done) | (simp only [← hji10] <;> (first | rfl | simp)) | (simp [*]; done)), H', ⟨by first | omega | exact Nat.le_refl _⟩, ⟨by repeat (first | (with_reducible first | exact HB.out | apply below_alloc | apply pw_below_drewN | apply below_drew1) | exact HB.out)⟩⟩
 case rest =>
  clear HC5
  try clear c1; try clear p1; try clear q1; try clear hx1; try clear qi1; try clear c2; try clear p2; try clear c4; try clear p6; try clear c7; try clear c7b0; try clear c7b1; try clear c7b2; try clear c8; try clear c8b0; try clear c8b1; try clear c9; try clear c9b0; try clear c9b1; try clear p10; try clear q10; try clear hx10; try clear qi10; try clear c11; try clear c11b0; try clear c12; try clear c12b0; try clear hx102_0; try clear hx103_0; try clear p102; try clear p103; try clear q102; try clear q103
  obtain ⟨kq, x31_4, rfl, HA, HJ4, HB⟩ := hcut
  cases kq with
  | zero => exact absurd HA.out (by simp [arm_ArePieces.j0])
  | succ kj4 =>
   have H := HA.out; clear HA; simp only [arm_ArePieces.j0] at H; by_cases c13 : x31_4 = true
   ·subst c13
    rw [if_pos rfl] at H; simp only [Option.some.injEq, Prod.mk.injEq] at H; obtain ⟨rfl, rfl⟩ := H
    go_wp2
    go_ret2
    exact ⟨eQ, by repeat (first | (with_reducible first | exact HB.out | apply below_alloc | apply pw_below_drewN | apply below_drew1) | exact HB.out)⟩
   replace c13 := Bool.eq_false_iff.mpr c13; subst c13; rw [if_neg (show ¬ (false = true) by decide)] at H; have H' := A_ H; clear H
   go_wp2
   go_loopg [34] kj4 (fun kq v34 w' => ∃ (x34_2 : Int), v34 = .int .i64 x34_2 ∧ Aside0 (arm_ArePieces.l0 kq l0 l1 l1 (l1.length : Int) x34_2 = some (r1, r2)) ∧ Aside0 (kq ≤ kj4) ∧ Aside0 (Below w.heap.size w w'))
   case atStart => exact ⟨(0), eS, H', ⟨Nat.le_refl _⟩, ⟨by repeat (first | (with_reducible first | exact HB.out | apply below_alloc | apply pw_below_drewN | apply below_drew1) | exact HB.out)⟩⟩
   case round =>
    clear H'
    try clear c1; try clear p1; try clear q1; try clear hx1; try clear qi1; try clear c2; try clear p2; try clear c4; try clear p6; try clear c7; try clear c7b0; try clear c7b1; try clear c7b2; try clear c8; try clear c8b0; try clear c8b1; try clear c9; try clear c9b0; try clear c9b1; try clear p10; try clear q10; try clear hx10; try clear qi10; try clear c11; try clear c11b0; try clear c12; try clear c12b0; try clear c13; try clear hx102_0; try clear hx103_0; try clear p1; try clear p10; try clear p102; try clear p103; try clear p2; try clear p6; try clear q1; try clear q10; try clear q102; try clear q103
    obtain ⟨x34_2, rfl, HA, HK2, HB⟩ := hrel
    cases gk with
    | zero => exact absurd HA.out (by simp [arm_ArePieces.l0])
    | succ k2 =>
     have H := HA.out; clear HA; simp only [arm_ArePieces.l0] at H; by_cases c14 : x34_2 < (l1.length : Int); rotate_left
     ·rw [if_neg c14] at H
      have c14b0 : decide (x34_2 < (l1.length : Int)) = false := decide_eq_false c14; clear c14; simp only [Option.some.injEq, Prod.mk.injEq] at H; obtain ⟨rfl, rfl⟩ := H
      go_wp2
      go_ret2
      exact ⟨eQ, by repeat (first | (with_reducible first | exact HB.out | apply below_alloc | apply pw_below_drewN | apply below_drew1) | exact HB.out)⟩
     rw [if_pos c14] at H; have c14b0 : decide (x34_2 < (l1.length : Int)) = true := decide_eq_true c14; clear c14; by_cases c15 : 0 ≤ x34_2; rotate_left
     ·rw [if_neg c15] at H
      exact absurd H (by simp)
     rw [if_pos c15] at H; have c15b0 : decide (0 ≤ x34_2) = true := decide_eq_true c15; clear c15; by_cases c16 : x34_2 < (l1.length : Int); rotate_left
     ·rw [if_neg c16] at H
      exact absurd H (by simp)
     rw [if_pos c16] at H; have c16b0 : decide (x34_2 < (l1.length : Int)) = true := decide_eq_true c16; clear c16; by_cases c17 : (wrap64 (x34_2 + 1)) < (l1.length : Int); rotate_left
     ·rw [if_neg c17] at H
      have c17b0 : decide ((wrap64 (x34_2 + 1)) < (l1.length : Int)) = false := decide_eq_false c17; clear c17; by_cases c32 : (rd l1 x34_2) < 0
      ·rw [if_pos c32] at H
       have c32b0 : decide ((rd l1 x34_2) < 0) = true := decide_eq_true c32; clear c32; simp only [Option.some.injEq, Prod.mk.injEq] at H; obtain ⟨rfl, rfl⟩ := H; have p104 : 0 ≤ (x34_2 : Int) := oD; have q104 : x34_2 < (l1.length : Int) := oD; obtain ⟨ad104, e104, hx104_0⟩ := Kd.at_int HR1.out x34_2 p104 q104
       cases e104
       replace hx104_0 := (HB.out.cell (World.block_lt_of_cell? w _ hx104_0)).trans hx104_0; replace p104 := eq_true p104; replace q104 := eq_true q104
       go_wp2
       go_ret2
       exact ⟨eQ, by repeat (first | (with_reducible first | exact HB.out | apply below_alloc | apply pw_below_drewN | apply below_drew1) | exact HB.out)⟩
      rw [if_neg c32] at H; have c32b0 : decide ((rd l1 x34_2) < 0) = false := decide_eq_false c32; clear c32; by_cases c33 : (rd l1 x34_2) ≥ (l0.length : Int)
      ·rw [if_pos c33] at H
       have c33b0 : decide ((l0.length : Int) ≤ (rd l1 x34_2)) = true := decide_eq_true c33; clear c33; simp only [Option.some.injEq, Prod.mk.injEq] at H; obtain ⟨rfl, rfl⟩ := H; have p104 : 0 ≤ (x34_2 : Int) := oD; have q104 : x34_2 < (l1.length : Int) := oD; obtain ⟨ad104, e104, hx104_0⟩ := Kd.at_int HR1.out x34_2 p104 q104
       cases e104
       replace hx104_0 := (HB.out.cell (World.block_lt_of_cell? w _ hx104_0)).trans hx104_0; replace p104 := eq_true p104; replace q104 := eq_true q104
       go_wp2
       go_ret2
       exact ⟨eQ, by repeat (first | (with_reducible first | exact HB.out | apply below_alloc | apply pw_below_drewN | apply below_drew1) | exact HB.out)⟩
      rw [if_neg c33] at H; have c33b0 : decide ((l0.length : Int) ≤ (rd l1 x34_2)) = false := decide_eq_false c33; clear c33; by_cases c34 : (l0.length : Int) > (l0.length : Int)
      ·exact absurd c34 (Int.lt_irrefl _)
      rw [if_neg c34] at H; have c34b0 : decide ((l0.length : Int) < (l0.length : Int)) = false := decide_eq_false c34
      have c34b1 : decide (l0.length < l0.length) = false := decide_eq_false (fun h => c34 (Int.ofNat_lt.mpr h))
      clear c34; by_cases c35 : 0 ≤ (rd l1 x34_2); rotate_left
      ·rw [if_neg c35] at H
       exact absurd H (by simp)
      rw [if_pos c35] at H; have c35b0 := eq_true c35; have c35b1 : decide (0 ≤ (rd l1 x34_2)) = true := decide_eq_true c35; clear c35; by_cases c36 : (rd l1 x34_2) ≤ (l0.length : Int); rotate_left
      ·rw [if_neg c36] at H
       exact absurd H (by simp)
      rw [if_pos c36] at H; have c36b0 := eq_true c36; have c36b1 : decide ((rd l1 x34_2) ≤ (l0.length : Int)) = true := decide_eq_true c36; clear c36; by_cases c37 : (l0.length : Int) ≤ (l0.length : Int); rotate_left
      ·rw [if_neg c37] at H
       exact absurd H (by simp)
      rw [if_pos c37] at H; have c37b0 := eq_true c37; have c37b1 : decide ((l0.length : Int) ≤ (l0.length : Int)) = true := decide_eq_true c37; clear c37; obtain ⟨y111, hy111⟩ : ∃ y_ : List (S73), y_ = ((l0.take ((l0.length : Int) : Int).toNat).drop ((rd l1 x34_2) : Int).toNat) := ⟨_, rfl⟩
      replace H : ((arm_can.f k2 y111).bind fun t115 => (if t115 = true then (arm_ArePieces.l0 k2 l0 l1 l1 (l1.length : Int) (wrap64 (x34_2 + 1))) else (some (false, 0)))) = some (r1, r2) := by first | (rw [hy111]; with_reducible exact H) | (have H2_ := (Option.bind_some _ _).symm.trans H; rw [hy111]; with_reducible exact H2_) | (have H2_ := (Option.bind_some _ _).symm.trans H; with_reducible exact H2_) | with_reducible exact H | (rw [hy111]; exact H) | exact H
      have Ny111 := A_ hy111; clear hy111; replace H := Option.bind_eq_some_iff.mp H; obtain ⟨t115, A380, H⟩ := H; (try dsimp only at H); have A38 := A_ A380; clear A380; by_cases c39 : t115 = true; rotate_left
      ·replace c39 := Bool.eq_false_iff.mpr c39
       subst c39; rw [if_neg (show ¬ (false = true) by decide)] at H; simp only [Option.some.injEq, Prod.mk.injEq] at H; obtain ⟨rfl, rfl⟩ := H; have p104 : 0 ≤ (x34_2 : Int) := oD; have q104 : x34_2 < (l1.length : Int) := oD; obtain ⟨ad104, e104, hx104_0⟩ := Kd.at_int HR1.out x34_2 p104 q104
       cases e104
       replace hx104_0 := (HB.out.cell (World.block_lt_of_cell? w _ hx104_0)).trans hx104_0; replace p104 := eq_true p104; replace q104 := eq_true q104; have q42 : ((l0.length : Int) : Int) ≤ ((l0.length : Int) : Int) := oD; obtain ⟨i042, hi042, _, hsz42, _⟩ := info_parts info73; have hroom42 : l0.length ≤ c0 := HC0.out; have hC42 : Kd.C k73 _ A0 l0.length l0 := HR0.out; have ql42 : ((rd l1 x34_2) : Int) ≤ ((l0.length : Int) : Int) := oD; have q042 : (0 : Int) ≤ ((rd l1 x34_2) : Int) := oD; have hcut42 := cut_mid (P := Try.prog) 30 73 .i64 .i64 Try.underlying30 hi042 3 hsz42 A0 l0.length c0 (rd l1 x34_2) (l0.length : Int) q042 ql42 q42 hroom42
       have hr42 := Kd.C_mid (lo := ((rd l1 x34_2) : Int).toNat) (hi := ((l0.length : Int) : Int).toNat) (c := c0) hC42 (by omega) (by omega) hroom42
       obtain ⟨A42, hA42⟩ : ∃ A1, A1 = (if c0 = ((rd l1 x34_2) : Int).toNat then A0 else (A0 : Option Addr).map (·.add (((rd l1 x34_2) : Int).toNat * 3))) := ⟨_, rfl⟩
       obtain ⟨c42, hc42⟩ : ∃ c1, c1 = c0 - ((rd l1 x34_2) : Int).toNat := ⟨_, rfl⟩
       have hy42 : y111.length = ((l0.length : Int) : Int).toNat - ((rd l1 x34_2) : Int).toNat := (by rw [Ny111.out, List.length_drop, List.length_take] <;> omega)
       rw [show ((l0).take ((l0.length : Int) : Int).toNat).drop ((rd l1 x34_2) : Int).toNat = y111 from Ny111.out.symm] at hr42
       replace hr42 : Kd.C k73 _ A42 y111.length y111 := (by rw [hA42]; exact hr42)
       rw [← hy42, ← hA42, ← hc42] at hcut42; have HR114 := A_ hr42
       have HC114 := A_ (show y111.length ≤ c42 from by rw [hy42, hc42]; exact Nat.sub_le_sub_right (Nat.le_trans (by omega) hroom42) _)
       clear hr42 hC42 hroom42 hi042 hsz42 hc42; have KY42 := A_ hy42; have KA42 := A_ hA42; clear hy42 hA42; replace q42 := eq_true q42
       go_wp2_with (first | (go_at_call 58; (with_reducible refine (arm_can.calls k2 _ _ y111 false _ ?side1 ?side2 A38.out).mono ?_); (case side1 => exact cU (Kd.C_below HR114.out HB.out)); (case side2 => exact HC114.out); rintro e w43 ⟨rfl, hb⟩; have n0_ := A_ (below_step (bW0 HB.out) hb); clear HB; have HB := n0_; clear n0_; (try clear hb)))
       go_ret2
       exact ⟨eQ, by repeat (first | (with_reducible first | exact HB.out | apply below_alloc | apply pw_below_drewN | apply below_drew1) | exact HB.out)⟩
      subst c39; rw [if_pos rfl] at H; have H' := A_ H; clear H; have p104 : 0 ≤ (x34_2 : Int) := oD; have q104 : x34_2 < (l1.length : Int) := oD; obtain ⟨ad104, e104, hx104_0⟩ := Kd.at_int HR1.out x34_2 p104 q104
      cases e104
      replace hx104_0 := (HB.out.cell (World.block_lt_of_cell? w _ hx104_0)).trans hx104_0; replace p104 := eq_true p104; replace q104 := eq_true q104; have q40 : ((l0.length : Int) : Int) ≤ ((l0.length : Int) : Int) := oD; obtain ⟨i040, hi040, _, hsz40, _⟩ := info_parts info73; have hroom40 : l0.length ≤ c0 := HC0.out; have hC40 : Kd.C k73 _ A0 l0.length l0 := HR0.out; have ql40 : ((rd l1 x34_2) : Int) ≤ ((l0.length : Int) : Int) := oD; have q040 : (0 : Int) ≤ ((rd l1 x34_2) : Int) := oD; have hcut40 := cut_mid (P := Try.prog) 30 73 .i64 .i64 Try.underlying30 hi040 3 hsz40 A0 l0.length c0 (rd l1 x34_2) (l0.length : Int) q040 ql40 q40 hroom40
      have hr40 := Kd.C_mid (lo := ((rd l1 x34_2) : Int).toNat) (hi := ((l0.length : Int) : Int).toNat) (c := c0) hC40 (by omega) (by omega) hroom40
      obtain ⟨A40, hA40⟩ : ∃ A1, A1 = (if c0 = ((rd l1 x34_2) : Int).toNat then A0 else (A0 : Option Addr).map (·.add (((rd l1 x34_2) : Int).toNat * 3))) := ⟨_, rfl⟩
      obtain ⟨c40, hc40⟩ : ∃ c1, c1 = c0 - ((rd l1 x34_2) : Int).toNat := ⟨_, rfl⟩
      have hy40 : y111.length = ((l0.length : Int) : Int).toNat - ((rd l1 x34_2) : Int).toNat := (by rw [Ny111.out, List.length_drop, List.length_take] <;> omega)
      rw [show ((l0).take ((l0.length : Int) : Int).toNat).drop ((rd l1 x34_2) : Int).toNat = y111 from Ny111.out.symm] at hr40
      replace hr40 : Kd.C k73 _ A40 y111.length y111 := (by rw [hA40]; exact hr40)
      rw [← hy40, ← hA40, ← hc40] at hcut40; have HR114 := A_ hr40
      have HC114 := A_ (show y111.length ≤ c40 from by rw [hy40, hc40]; exact Nat.sub_le_sub_right (Nat.le_trans (by omega) hroom40) _)
      clear hr40 hC40 hroom40 hi040 hsz40 hc40; have KY40 := A_ hy40; have KA40 := A_ hA40; clear hy40 hA40; replace q40 := eq_true q40
      go_wp2_with (first | (go_at_call 58; (with_reducible refine (arm_can.calls k2 _ _ y111 true _ ?side1 ?side2 A38.out).mono ?_); (case side1 => exact cU (Kd.C_below HR114.out HB.out)); (case side2 => exact HC114.out); rintro e w41 ⟨rfl, hb⟩; have n0_ := A_ (below_step (bW0 HB.out) hb); clear HB; have HB := n0_; clear n0_; (try clear hb)))
      go_roundg k2
      case measure => have := HJ4.out; have := HK2.out; omega
      case rel => exact ⟨(wrap64 (x34_2 + 1)), eS, H', ⟨by have := HJ4.out; have := HK2.out; omega⟩, ⟨by repeat (first | (with_reducible first | exact HB.out | apply below_alloc | apply pw_below_drewN | apply below_drew1) | exact HB.out)⟩⟩
     rw [if_pos c17] at H; have c17b0 : decide ((wrap64 (x34_2 + 1)) < (l1.length : Int)) = true := decide_eq_true c17; clear c17; obtain ⟨ji18, hji18⟩ : ∃ j_ : Int, (wrap64 (x34_2 + 1)) = j_ := ⟨_, rfl⟩
     replace H : (if 0 ≤ (ji18) then (if (rd l1 x34_2) < 0 then (some (false, 0)) else (if (rd l1 x34_2) ≥ (rd l1 (ji18)) then (some (false, 0)) else (if (rd l1 (ji18)) > (l0.length : Int) then (some (false, 0)) else (if 0 ≤ (rd l1 x34_2) then (if (rd l1 x34_2) ≤ (rd l1 (ji18)) then (if (rd l1 (ji18)) ≤ (l0.length : Int) then ((arm_can.f k2 ((l0.take ((rd l1 (ji18)) : Int).toNat).drop ((rd l1 x34_2) : Int).toNat)).bind fun t110 => (if t110 = true then (arm_ArePieces.l0 k2 l0 l1 l1 (l1.length : Int) ji18) else (some (false, 0)))) else (none)) else (none)) else (none))))) else (none)) = some (r1, r2) := by first | (rw [hji18] at H; exact H) | (simp only [hji18] at H ⊢; exact H)
     (try rw [hji18] at c17b0)
     have hji18w : (IntKind.i64.wrap (x34_2 + 1)) = ji18 := (i64_w _).trans hji18; by_cases c19 : 0 ≤ (ji18); rotate_left
     ·rw [if_neg c19] at H
      exact absurd H (by simp)
     rw [if_pos c19] at H; have c19b0 : decide (0 ≤ (ji18)) = true := decide_eq_true c19; clear c19; by_cases c20 : (rd l1 x34_2) < 0
     ·rw [if_pos c20] at H
      have c20b0 : decide ((rd l1 x34_2) < 0) = true := decide_eq_true c20; clear c20; simp only [Option.some.injEq, Prod.mk.injEq] at H; obtain ⟨rfl, rfl⟩ := H; have p104 : 0 ≤ (x34_2 : Int) := oD; have q104 : x34_2 < (l1.length : Int) := oD; obtain ⟨ad104, e104, hx104_0⟩ := Kd.at_int HR1.out x34_2 p104 q104
      cases e104
      replace hx104_0 := (HB.out.cell (World.block_lt_of_cell? w _ hx104_0)).trans hx104_0; replace p104 := eq_true p104; replace q104 := eq_true q104; have p105 : 0 ≤ ((ji18) : Int) := oD; have q105 : (ji18) < (l1.length : Int) := oD; obtain ⟨ad105, e105, hx105_0⟩ := Kd.at_int HR1.out (ji18) p105 q105
      obtain rfl : ad104 = ad105 := (by injection e105)
      replace hx105_0 := (HB.out.cell (World.block_lt_of_cell? w _ hx105_0)).trans hx105_0; replace p105 := eq_true p105; replace q105 := eq_true q105
      go_wp2
      go_ret2
      exact ⟨by first | rfl | (simp [errW_none, errW_some] <;> rfl) | (simp only [← hji18]; first | rfl | (simp [errW_none, errW_some] <;> rfl)) | (simp [*, errW_none, errW_some] <;> rfl), by repeat (first | (with_reducible first | exact HB.out | apply below_alloc | apply pw_below_drewN | apply below_drew1) | exact HB.out)⟩
     rw [if_neg c20] at H; have c20b0 : decide ((rd l1 x34_2) < 0) = false := decide_eq_false c20; clear c20; by_cases c21 : (rd l1 x34_2) ≥ (rd l1 (ji18))
     ·rw [if_pos c21] at H
      have c21b0 : decide ((rd l1 (ji18)) ≤ (rd l1 x34_2)) = true := decide_eq_true c21; clear c21; simp only [Option.some.injEq, Prod.mk.injEq] at H; obtain ⟨rfl, rfl⟩ := H; have p104 : 0 ≤ (x34_2 : Int) := oD; have q104 : x34_2 < (l1.length : Int) := oD; obtain ⟨ad104, e104, hx104_0⟩ := Kd.at_int HR1.out x34_2 p104 q104
      cases e104
      replace hx104_0 := (HB.out.cell (World.block_lt_of_cell? w _ hx104_0)).trans hx104_0; replace p104 := eq_true p104; replace q104 := eq_true q104; have p105 : 0 ≤ ((ji18) : Int) := oD; have q105 : (ji18) < (l1.length : Int) := oD; obtain ⟨ad105, e105, hx105_0⟩ := Kd.at_int HR1.out (ji18) p105 q105
      obtain rfl : ad104 = ad105 := (by injection e105)
      replace hx105_0 := (HB.out.cell (World.block_lt_of_cell? w _ hx105_0)).trans hx105_0; replace p105 := eq_true p105; replace q105 := eq_true q105
      go_wp2
      go_ret2
      exact ⟨by first | rfl | (simp [errW_none, errW_some] <;> rfl) | (simp only [← hji18]; first | rfl | (simp [errW_none, errW_some] <;> rfl)) | (simp [*, errW_none, errW_some] <;> rfl), by repeat (first | (with_reducible first | exact HB.out | apply below_alloc | apply pw_below_drewN | apply below_drew1) | exact HB.out)⟩
     rw [if_neg c21] at H; have c21b0 : decide ((rd l1 (ji18)) ≤ (rd l1 x34_2)) = false := decide_eq_false c21; clear c21; by_cases c22 : (rd l1 (ji18)) > (l0.length : Int)
     ·rw [if_pos c22] at H
      have c22b0 : decide ((l0.length : Int) < (rd l1 (ji18))) = true := decide_eq_true c22; clear c22; simp only [Option.some.injEq, Prod.mk.injEq] at H; obtain ⟨rfl, rfl⟩ := H; have p104 : 0 ≤ (x34_2 : Int) := oD; have q104 : x34_2 < (l1.length : Int) := oD; obtain ⟨ad104, e104, hx104_0⟩ := Kd.at_int HR1.out x34_2 p104 q104
      cases e104
      replace hx104_0 := (HB.out.cell (World.block_lt_of_cell? w _ hx104_0)).trans hx104_0; replace p104 := eq_true p104; replace q104 := eq_true q104; have p105 : 0 ≤ ((ji18) : Int) := oD; have q105 : (ji18) < (l1.length : Int) := oD; obtain ⟨ad105, e105, hx105_0⟩ := Kd.at_int HR1.out (ji18) p105 q105
      obtain rfl : ad104 = ad105 := (by injection e105)
      replace hx105_0 := (HB.out.cell (World.block_lt_of_cell? w _ hx105_0)).trans hx105_0; replace p105 := eq_true p105; replace q105 := eq_true q105
      go_wp2
      go_ret2
      exact ⟨by first | rfl | (simp [errW_none, errW_some] <;> rfl) | (simp only [← hji18]; first | rfl | (simp [errW_none, errW_some] <;> rfl)) | (simp [*, errW_none, errW_some] <;> rfl), by repeat (first | (with_reducible first | exact HB.out | apply below_alloc | apply pw_below_drewN | apply below_drew1) | exact HB.out)⟩
     rw [if_neg c22] at H; have c22b0 : decide ((l0.length : Int) < (rd l1 (ji18))) = false := decide_eq_false c22; clear c22; by_cases c23 : 0 ≤ (rd l1 x34_2); rotate_left
     ·rw [if_neg c23] at H
      exact absurd H (by simp)
     rw [if_pos c23] at H; have c23b0 := eq_true c23; have c23b1 : decide (0 ≤ (rd l1 x34_2)) = true := decide_eq_true c23; clear c23; by_cases c24 : (rd l1 x34_2) ≤ (rd l1 (ji18)); rotate_left
     ·rw [if_neg c24] at H
      exact absurd H (by simp)
     rw [if_pos c24] at H; have c24b0 := eq_true c24; have c24b1 : decide ((rd l1 x34_2) ≤ (rd l1 (ji18))) = true := decide_eq_true c24; clear c24; by_cases c25 : (rd l1 (ji18)) ≤ (l0.length : Int); rotate_left
     ·rw [if_neg c25] at H
      exact absurd H (by simp)
     rw [if_pos c25] at H; have c25b0 := eq_true c25; have c25b1 : decide ((rd l1 (ji18)) ≤ (l0.length : Int)) = true := decide_eq_true c25; clear c25; obtain ⟨y106, hy106⟩ : ∃ y_ : List (S73), y_ = ((l0.take ((rd l1 (ji18)) : Int).toNat).drop ((rd l1 x34_2) : Int).toNat) := ⟨_, rfl⟩
     replace H : ((arm_can.f k2 y106).bind fun t110 => (if t110 = true then (arm_ArePieces.l0 k2 l0 l1 l1 (l1.length : Int) ji18) else (some (false, 0)))) = some (r1, r2) := by first | (rw [hy106]; with_reducible exact H) | (have H2_ := (Option.bind_some _ _).symm.trans H; rw [hy106]; with_reducible exact H2_) | (have H2_ := (Option.bind_some _ _).symm.trans H; with_reducible exact H2_) | with_reducible exact H | (rw [hy106]; exact H) | exact H
     have Ny106 := A_ hy106; clear hy106; replace H := Option.bind_eq_some_iff.mp H; obtain ⟨t110, A260, H⟩ := H; (try dsimp only at H); have A26 := A_ A260; clear A260; by_cases c27 : t110 = true
     ·subst c27
      rw [if_pos rfl] at H; have H' := A_ H; clear H; have p104 : 0 ≤ (x34_2 : Int) := oD; have q104 : x34_2 < (l1.length : Int) := oD; obtain ⟨ad104, e104, hx104_0⟩ := Kd.at_int HR1.out x34_2 p104 q104
      cases e104
      replace hx104_0 := (HB.out.cell (World.block_lt_of_cell? w _ hx104_0)).trans hx104_0; replace p104 := eq_true p104; replace q104 := eq_true q104; have p105 : 0 ≤ ((ji18) : Int) := oD; have q105 : (ji18) < (l1.length : Int) := oD; obtain ⟨ad105, e105, hx105_0⟩ := Kd.at_int HR1.out (ji18) p105 q105
      obtain rfl : ad104 = ad105 := (by injection e105)
      replace hx105_0 := (HB.out.cell (World.block_lt_of_cell? w _ hx105_0)).trans hx105_0; replace p105 := eq_true p105; replace q105 := eq_true q105; have q28 : ((rd l1 (ji18)) : Int) ≤ ((l0.length : Int) : Int) := oD; obtain ⟨i028, hi028, _, hsz28, _⟩ := info_parts info73; have hroom28 : l0.length ≤ c0 := HC0.out; have hC28 : Kd.C k73 _ A0 l0.length l0 := HR0.out; have ql28 : ((rd l1 x34_2) : Int) ≤ ((rd l1 (ji18)) : Int) := oD; have q028 : (0 : Int) ≤ ((rd l1 x34_2) : Int) := oD; have hcut28 := cut_mid (P := Try.prog) 30 73 .i64 .i64 Try.underlying30 hi028 3 hsz28 A0 l0.length c0 (rd l1 x34_2) (rd l1 (ji18)) q028 ql28 q28 hroom28
      have hr28 := Kd.C_mid (lo := ((rd l1 x34_2) : Int).toNat) (hi := ((rd l1 (ji18)) : Int).toNat) (c := c0) hC28 (by omega) (by omega) hroom28
      obtain ⟨A28, hA28⟩ : ∃ A1, A1 = (if c0 = ((rd l1 x34_2) : Int).toNat then A0 else (A0 : Option Addr).map (·.add (((rd l1 x34_2) : Int).toNat * 3))) := ⟨_, rfl⟩
      obtain ⟨c28, hc28⟩ : ∃ c1, c1 = c0 - ((rd l1 x34_2) : Int).toNat := ⟨_, rfl⟩
      have hy28 : y106.length = ((rd l1 (ji18)) : Int).toNat - ((rd l1 x34_2) : Int).toNat := (by rw [Ny106.out, List.length_drop, List.length_take] <;> omega)
      rw [show ((l0).take ((rd l1 (ji18)) : Int).toNat).drop ((rd l1 x34_2) : Int).toNat = y106 from Ny106.out.symm] at hr28
      replace hr28 : Kd.C k73 _ A28 y106.length y106 := (by rw [hA28]; exact hr28)
      rw [← hy28, ← hA28, ← hc28] at hcut28; have HR109 := A_ hr28
      have HC109 := A_ (show y106.length ≤ c28 from by rw [hy28, hc28]; exact Nat.sub_le_sub_right (Nat.le_trans (by omega) hroom28) _)
      clear hr28 hC28 hroom28 hi028 hsz28 hc28; have KY28 := A_ hy28; have KA28 := A_ hA28; clear hy28 hA28; replace q28 := eq_true q28
      go_wp2_with (first | (go_at_call 58; (with_reducible refine (arm_can.calls k2 _ _ y106 true _ ?side1 ?side2 A26.out).mono ?_); (case side1 => exact cU (Kd.C_below HR109.out HB.out)); (case side2 => exact HC109.out); rintro e w29 ⟨rfl, hb⟩; have n0_ := A_ (below_step (bW0 HB.out) hb); clear HB; have HB := n0_; clear n0_; (try clear hb)))
      go_roundg k2
      case measure => have := HJ4.out; have := HK2.out; omega
      case rel => exact ⟨(ji18), (by first | rfl | (simp; done) | (simp only [← hji18] <;> (first | rfl | simp)) | (simp [*]; done)), H', ⟨by have := HJ4.out; have := HK2.out; omega⟩, ⟨by repeat (first | (with_reducible first | exact HB.out | apply below_alloc | apply pw_below_drewN | apply below_drew1) | exact HB.out)⟩⟩
     replace c27 := Bool.eq_false_iff.mpr c27; subst c27; rw [if_neg (show ¬ (false = true) by decide)] at H; simp only [Option.some.injEq, Prod.mk.injEq] at H; obtain ⟨rfl, rfl⟩ := H; have p104 : 0 ≤ (x34_2 : Int) := oD; have q104 : x34_2 < (l1.length : Int) := oD; obtain ⟨ad104, e104, hx104_0⟩ := Kd.at_int HR1.out x34_2 p104 q104
     cases e104
     replace hx104_0 := (HB.out.cell (World.block_lt_of_cell? w _ hx104_0)).trans hx104_0; replace p104 := eq_true p104; replace q104 := eq_true q104; have p105 : 0 ≤ ((ji18) : Int) := oD; have q105 : (ji18) < (l1.length : Int) := oD; obtain ⟨ad105, e105, hx105_0⟩ := Kd.at_int HR1.out (ji18) p105 q105
     obtain rfl : ad104 = ad105 := (by injection e105)
     replace hx105_0 := (HB.out.cell (World.block_lt_of_cell? w _ hx105_0)).trans hx105_0; replace p105 := eq_true p105; replace q105 := eq_true q105; have q30 : ((rd l1 (ji18)) : Int) ≤ ((l0.length : Int) : Int) := oD; obtain ⟨i030, hi030, _, hsz30, _⟩ := info_parts info73; have hroom30 : l0.length ≤ c0 := HC0.out; have hC30 : Kd.C k73 _ A0 l0.length l0 := HR0.out; have ql30 : ((rd l1 x34_2) : Int) ≤ ((rd l1 (ji18)) : Int) := oD; have q030 : (0 : Int) ≤ ((rd l1 x34_2) : Int) := oD; have hcut30 := cut_mid (P := Try.prog) 30 73 .i64 .i64 Try.underlying30 hi030 3 hsz30 A0 l0.length c0 (rd l1 x34_2) (rd l1 (ji18)) q030 ql30 q30 hroom30
     have hr30 := Kd.C_mid (lo := ((rd l1 x34_2) : Int).toNat) (hi := ((rd l1 (ji18)) : Int).toNat) (c := c0) hC30 (by omega) (by omega) hroom30
     obtain ⟨A30, hA30⟩ : ∃ A1, A1 = (if c0 = ((rd l1 x34_2) : Int).toNat then A0 else (A0 : Option Addr).map (·.add (((rd l1 x34_2) : Int).toNat * 3))) := ⟨_, rfl⟩
     obtain ⟨c30, hc30⟩ : ∃ c1, c1 = c0 - ((rd l1 x34_2) : Int).toNat := ⟨_, rfl⟩
     have hy30 : y106.length = ((rd l1 (ji18)) : Int).toNat - ((rd l1 x34_2) : Int).toNat := (by rw [Ny106.out, List.length_drop, List.length_take] <;> omega)
     rw [show ((l0).take ((rd l1 (ji18)) : Int).toNat).drop ((rd l1 x34_2) : Int).toNat = y106 from Ny106.out.symm] at hr30
     replace hr30 : Kd.C k73 _ A30 y106.length y106 := (by rw [hA30]; exact hr30)
     rw [← hy30, ← hA30, ← hc30] at hcut30; have HR109 := A_ hr30
     have HC109 := A_ (show y106.length ≤ c30 from by rw [hy30, hc30]; exact Nat.sub_le_sub_right (Nat.le_trans (by omega) hroom30) _)
     clear hr30 hC30 hroom30 hi030 hsz30 hc30; have KY30 := A_ hy30; have KA30 := A_ hA30; clear hy30 hA30; replace q30 := eq_true q30
     go_wp2_with (first | (go_at_call 58; (with_reducible refine (arm_can.calls k2 _ _ y106 false _ ?side1 ?side2 A26.out).mono ?_); (case side1 => exact cU (Kd.C_below HR109.out HB.out)); (case side2 => exact HC109.out); rintro e w31 ⟨rfl, hb⟩; have n0_ := A_ (below_step (bW0 HB.out) hb); clear HB; have HB := n0_; clear n0_; (try clear hb)))
     go_ret2
     exact ⟨by first | rfl | (simp [errW_none, errW_some] <;> rfl) | (simp only [← hji18]; first | rfl | (simp [errW_none, errW_some] <;> rfl)) | (simp [*, errW_none, errW_some] <;> rfl), by repeat (first | (with_reducible first | exact HB.out | apply below_alloc | apply pw_below_drewN | apply below_drew1) | exact HB.out)⟩
end Go.Proofs.Ytiapmkndgalgnaa.G
