-- Written by this session's driver (wip/tools/printmore.py) over the kit's print, with hand-written parts.
import Derived.Test.YtiapmkndgalgnaaGBase
import Derived.Test.YtiapmkndgalgnaaGF24
import Derived.Test.YtiapmkndgalgnaaGF25
namespace Go.Proofs.Ytiapmkndgalgnaa.G
open Go.RowKit Go.Proofs.YtiapmkndgalgnaaW.PrintWords Go.Proofs.YtiapmkndgalgnaaW.PrintLast Go.Proofs.YtiapmkndgalgnaaW.PrintMore
attribute [local go_sem] max2_int min2_int max_two min_two max_three min_three max_four min_four   -- for this text's walks alone
set_option linter.unusedVariables false
set_option linter.unusedSimpArgs false

/-! ### dropperref03_ArePieces: function 30 -/
mutual
def dropperref03_ArePieces.l0 : Nat → List (S73) → List Int → Int → Option (Bool × Int)
 | 0, _, _, _ => none
 | k + 1, x0, x1, x6 => if x6 < (x1.length : Int) then (if 0 ≤ x6 then (if (rd x1 x6) < 0 then (some (false, 0)) else (if (rd x1 x6) ≥ (x0.length : Int) then (some (false, 0)) else (if x6 > 0 then (if 0 ≤ (wrap64 (x6 - 1)) then (if (wrap64 (x6 - 1)) < (x1.length : Int) then (if (rd x1 x6) ≤ (rd x1 (wrap64 (x6 - 1))) then (some (false, 0)) else (dropperref03_ArePieces.l0 k x0 x1 (wrap64 (x6 + 1)))) else (none)) else (none)) else (dropperref03_ArePieces.l0 k x0 x1 (wrap64 (x6 + 1)))))) else (none)) else (if (x1.length : Int) = 0 then (dropperref03_ArePieces.j1 k x0 x1 true) else (if 0 < (x1.length : Int) then (dropperref03_ArePieces.j1 k x0 x1 ((rd x1 0) != 0)) else (none)))
def dropperref03_ArePieces.j1 : Nat → List (S73) → List Int → Bool → Option (Bool × Int)
 | 0, _, _, _ => none
 | k + 1, x0, x1, x56 => if x56 = true then (some (false, 0)) else (dropperref03_ArePieces.l1 k x0 x1 0)
def dropperref03_ArePieces.l1 : Nat → List (S73) → List Int → Int → Option (Bool × Int)
 | 0, _, _, _ => none
 | k + 1, x0, x1, x7 => if x7 < (x1.length : Int) then (if (wrap64 (x7 + 1)) < (x1.length : Int) then (if 0 ≤ (wrap64 (x7 + 1)) then (if 0 ≤ x7 then (if 0 ≤ (rd x1 x7) then (if (rd x1 x7) ≤ (rd x1 (wrap64 (x7 + 1))) then (if (rd x1 (wrap64 (x7 + 1))) ≤ (x0.length : Int) then ((dropperref03_Some.f k ((x0.take ((rd x1 (wrap64 (x7 + 1))) : Int).toNat).drop ((rd x1 x7) : Int).toNat)).bind fun t113 => (if t113 = true then (dropperref03_ArePieces.l1 k x0 x1 (wrap64 (x7 + 1))) else (some (false, 0)))) else (none)) else (none)) else (none)) else (none)) else (none)) else (if 0 ≤ x7 then (if 0 ≤ (rd x1 x7) then (if (rd x1 x7) ≤ (x0.length : Int) then (if (x0.length : Int) ≤ (x0.length : Int) then ((dropperref03_Some.f k ((x0.take ((x0.length : Int) : Int).toNat).drop ((rd x1 x7) : Int).toNat)).bind fun t119 => (if t119 = true then (dropperref03_ArePieces.l1 k x0 x1 (wrap64 (x7 + 1))) else (some (false, 0)))) else (none)) else (none)) else (none)) else (none))) else (some (true, 0))
end
def dropperref03_ArePieces.f (k : Nat) (l0 : List (S73)) (l1 : List Int) : Option (Bool × Int) := (dropperref03_Valid.f k l0).bind fun t101 => (if t101 = true then (dropperref03_ArePieces.l0 k l0 l1 0) else (some (false, 20)))
theorem dropperref03_ArePieces.mono_l : ∀ k, (∀ y0 y1 y2, LeO (dropperref03_ArePieces.l0 k y0 y1 y2) (dropperref03_ArePieces.l0 (k + 1) y0 y1 y2)) ∧ (∀ y0 y1 y2, LeO (dropperref03_ArePieces.j1 k y0 y1 y2) (dropperref03_ArePieces.j1 (k + 1) y0 y1 y2)) ∧ (∀ y0 y1 y2, LeO (dropperref03_ArePieces.l1 k y0 y1 y2) (dropperref03_ArePieces.l1 (k + 1) y0 y1 y2))
 | 0 => ⟨fun _ _ _ r h => by simp [dropperref03_ArePieces.l0] at h, fun _ _ _ r h => by simp [dropperref03_ArePieces.j1] at h, fun _ _ _ r h => by simp [dropperref03_ArePieces.l1] at h⟩
 | k + 1 => by
  obtain ⟨ih0, ih1, ih2⟩ := dropperref03_ArePieces.mono_l k
  refine ⟨?_, ?_, ?_⟩
  ·intro y0 y1 y2
   unfold dropperref03_ArePieces.l0
   repeat' first
   | (with_reducible exact ih0 _ _ _)
   | (with_reducible exact ih1 _ _ _)
   | (with_reducible exact ih2 _ _ _)
   | (with_reducible exact dropperref03_Some.mono _ _)
   | (with_reducible exact dropperref03_Valid.mono _ _)
   | (with_reducible exact LeO.refl _)
   | (with_reducible exact LeO.none _)
   | (with_reducible refine LeO.ite ?_ ?_)
   | (with_reducible refine LeO.bind ?_ (fun _ => ?_))
   | exact ih0 _ _ _
   | exact ih1 _ _ _
   | exact ih2 _ _ _
   | exact dropperref03_Some.mono _ _
   | exact dropperref03_Valid.mono _ _
   | exact LeO.none _
   | refine LeO.ite ?_ ?_
   | refine LeO.bind ?_ (fun _ => ?_)
  ·intro y0 y1 y2
   unfold dropperref03_ArePieces.j1
   repeat' first
   | (with_reducible exact ih0 _ _ _)
   | (with_reducible exact ih1 _ _ _)
   | (with_reducible exact ih2 _ _ _)
   | (with_reducible exact dropperref03_Some.mono _ _)
   | (with_reducible exact dropperref03_Valid.mono _ _)
   | (with_reducible exact LeO.refl _)
   | (with_reducible exact LeO.none _)
   | (with_reducible refine LeO.ite ?_ ?_)
   | (with_reducible refine LeO.bind ?_ (fun _ => ?_))
   | exact ih0 _ _ _
   | exact ih1 _ _ _
   | exact ih2 _ _ _
   | exact dropperref03_Some.mono _ _
   | exact dropperref03_Valid.mono _ _
   | exact LeO.none _
   | refine LeO.ite ?_ ?_
   | refine LeO.bind ?_ (fun _ => ?_)
  ·intro y0 y1 y2
   unfold dropperref03_ArePieces.l1
   repeat' first
   | (with_reducible exact ih0 _ _ _)
   | (with_reducible exact ih1 _ _ _)
   | (with_reducible exact ih2 _ _ _)
   | (with_reducible exact dropperref03_Some.mono _ _)
   | (with_reducible exact dropperref03_Valid.mono _ _)
   | (with_reducible exact LeO.refl _)
   | (with_reducible exact LeO.none _)
   | (with_reducible refine LeO.ite ?_ ?_)
   | (with_reducible refine LeO.bind ?_ (fun _ => ?_))
   | exact ih0 _ _ _
   | exact ih1 _ _ _
   | exact ih2 _ _ _
   | exact dropperref03_Some.mono _ _
   | exact dropperref03_Valid.mono _ _
   | exact LeO.none _
   | refine LeO.ite ?_ ?_
   | refine LeO.bind ?_ (fun _ => ?_)
theorem dropperref03_ArePieces.mono : ∀ a0 a1 k, LeO (dropperref03_ArePieces.f k a0 a1) (dropperref03_ArePieces.f (k + 1) a0 a1) := by
 intro a0 a1 k
 obtain ⟨ih0, ih1, ih2⟩ := dropperref03_ArePieces.mono_l k
 unfold dropperref03_ArePieces.f
 repeat' first
   | (with_reducible exact ih0 _ _ _)
   | (with_reducible exact ih1 _ _ _)
   | (with_reducible exact ih2 _ _ _)
   | (with_reducible exact dropperref03_Some.mono _ _)
   | (with_reducible exact dropperref03_Valid.mono _ _)
   | (with_reducible exact LeO.refl _)
   | (with_reducible exact LeO.none _)
   | (with_reducible refine LeO.ite ?_ ?_)
   | (with_reducible refine LeO.bind ?_ (fun _ => ?_))
   | exact ih0 _ _ _
   | exact ih1 _ _ _
   | exact ih2 _ _ _
   | exact dropperref03_Some.mono _ _
   | exact dropperref03_Valid.mono _ _
   | exact LeO.none _
   | refine LeO.ite ?_ ?_
   | refine LeO.bind ?_ (fun _ => ?_)
set_option maxHeartbeats 8000000 in
set_option maxRecDepth 100000 in
theorem dropperref03_ArePieces.calls (k : Nat) (A0 : Option Addr) (c0 : Nat) (l0 : List (S73)) (A1 : Option Addr) (c1 : Nat) (l1 : List Int) (r1 : Bool) (r2 : Int) (w : World) (hr0 : Kd.C k73 w A0 l0.length l0) (hc0 : l0.length ≤ c0) (hr1 : Kd.C (Kd.int .i64) w A1 l1.length l1) (hc1 : l1.length ≤ c1) (h : dropperref03_ArePieces.f k l0 l1 = some (r1, r2)) :
  Calls Try.prog 30 #[.slice A0 l0.length c0, .slice A1 l1.length c1] w fun e w' => e = .returned (.tuple #[.bool r1, .int .i64 r2]) ∧ Below w.heap.size w w' := by
 have HR0 := A_ hr0; have HC0 := A_ hc0; clear hr0 hc0; have HR1 := A_ hr1; have HC1 := A_ hc1; clear hr1 hc1; have HB := A_ (Below.refl w.heap.size w)
 have H : ((dropperref03_Valid.f k l0).bind fun t101 => (if t101 = true then (dropperref03_ArePieces.l0 k l0 l1 0) else (some (false, 20)))) = some (r1, r2) := h
 clear h; replace H := Option.bind_eq_some_iff.mp H; obtain ⟨t101, A30, H⟩ := H; (try dsimp only at H); have A3 := A_ A30; clear A30; by_cases c4 : t101 = true; rotate_left
 ·replace c4 := Bool.eq_false_iff.mpr c4
  subst c4; rw [if_neg (show ¬ (false = true) by decide)] at H; simp only [Option.some.injEq, Prod.mk.injEq] at H; obtain ⟨rfl, rfl⟩ := H
  go_enter Try.func30, Try.ntmps30
  go_wp2_with (first | (go_at_call 24; (with_reducible refine (dropperref03_Valid.calls k _ _ l0 false _ ?side1 ?side2 A3.out).mono ?_); (case side1 => exact cU HR0.out); (case side2 => exact HC0.out); rintro e w43 ⟨rfl, hb⟩; have n0_ := A_ (below_step (bW0 HB.out) hb); clear HB; have HB := n0_; clear n0_; (try clear hb)))
  repeat (go_quiet (first | (go_at_call 24; (with_reducible refine (dropperref03_Valid.calls k _ _ l0 false _ ?side1 ?side2 A3.out).mono ?_); (case side1 => exact cU HR0.out); (case side2 => exact HC0.out); rintro e w43 ⟨rfl, hb⟩; have n0_ := A_ (below_step (bW0 HB.out) hb); clear HB; have HB := n0_; clear n0_; (try clear hb))); try go_wp2_with (first | (go_at_call 24; (with_reducible refine (dropperref03_Valid.calls k _ _ l0 false _ ?side1 ?side2 A3.out).mono ?_); (case side1 => exact cU HR0.out); (case side2 => exact HC0.out); rintro e w43 ⟨rfl, hb⟩; have n0_ := A_ (below_step (bW0 HB.out) hb); clear HB; have HB := n0_; clear n0_; (try clear hb))))
  go_ret2
  exact ⟨eQ, by repeat (first | (with_reducible first | exact HB.out | apply below_alloc | apply pw_below_drewN | apply below_drew1) | exact HB.out)⟩

 subst c4; rw [if_pos rfl] at H; have H' := A_ H; clear H
 go_enter Try.func30, Try.ntmps30
 go_wp2_with (first | (go_at_call 24; (with_reducible refine (dropperref03_Valid.calls k _ _ l0 true _ ?side1 ?side2 A3.out).mono ?_); (case side1 => exact cU HR0.out); (case side2 => exact HC0.out); rintro e w5 ⟨rfl, hb⟩; have n0_ := A_ (below_step (bW0 HB.out) hb); clear HB; have HB := n0_; clear n0_; (try clear hb)))
 repeat (go_quiet (first | (go_at_call 24; (with_reducible refine (dropperref03_Valid.calls k _ _ l0 true _ ?side1 ?side2 A3.out).mono ?_); (case side1 => exact cU HR0.out); (case side2 => exact HC0.out); rintro e w5 ⟨rfl, hb⟩; have n0_ := A_ (below_step (bW0 HB.out) hb); clear HB; have HB := n0_; clear n0_; (try clear hb))); try go_wp2_with (first | (go_at_call 24; (with_reducible refine (dropperref03_Valid.calls k _ _ l0 true _ ?side1 ?side2 A3.out).mono ?_); (case side1 => exact cU HR0.out); (case side2 => exact HC0.out); rintro e w5 ⟨rfl, hb⟩; have n0_ := A_ (below_step (bW0 HB.out) hb); clear HB; have HB := n0_; clear n0_; (try clear hb))))
 go_loopg [6] k (fun kq v6 w' => ∃ (x6_1 : Int), v6 = .int .i64 x6_1 ∧ Aside0 (dropperref03_ArePieces.l0 kq l0 l1 x6_1 = some (r1, r2)) ∧ Aside0 (kq ≤ k) ∧ Aside0 (Below w.heap.size w w'))
 case atStart => exact ⟨(0), eS, H', ⟨Nat.le_refl _⟩, ⟨by repeat (first | (with_reducible first | exact HB.out | apply below_alloc | apply pw_below_drewN | apply below_drew1) | exact HB.out)⟩⟩
 case round =>
  clear H'
  try clear c1; try clear p2; try clear c3; try clear c4
  obtain ⟨x6_1, rfl, HA, HK1, HB⟩ := hrel
  cases gk with
  | zero => exact absurd HA.out (by simp [dropperref03_ArePieces.l0])
  | succ k1 =>
   have H := HA.out; clear HA; simp only [dropperref03_ArePieces.l0] at H; by_cases c6 : x6_1 < (l1.length : Int)
   ·rw [if_pos c6] at H
    have c6b0 : decide (x6_1 < (l1.length : Int)) = true := decide_eq_true c6; clear c6; by_cases c7 : 0 ≤ x6_1; rotate_left
    ·rw [if_neg c7] at H
     exact absurd H (by simp)
    rw [if_pos c7] at H; have c7b0 : decide (0 ≤ x6_1) = true := decide_eq_true c7; clear c7; by_cases c8 : (rd l1 x6_1) < 0
    ·rw [if_pos c8] at H
     have c8b0 : decide ((rd l1 x6_1) < 0) = true := decide_eq_true c8; clear c8; simp only [Option.some.injEq, Prod.mk.injEq] at H; obtain ⟨rfl, rfl⟩ := H; have p102 : 0 ≤ (x6_1 : Int) := oD; have q102 : x6_1 < (l1.length : Int) := oD; obtain ⟨ad102, e102, hx102_0⟩ := Kd.at_int HR1.out x6_1 p102 q102
     cases e102
     replace hx102_0 := (HB.out.cell (World.block_lt_of_cell? w _ hx102_0)).trans hx102_0; replace p102 := eq_true p102; replace q102 := eq_true q102
     go_wp2
     repeat (go_quiet (fail); try go_wp2)
     go_ret2
     exact ⟨eQ, by repeat (first | (with_reducible first | exact HB.out | apply below_alloc | apply pw_below_drewN | apply below_drew1) | exact HB.out)⟩
    rw [if_neg c8] at H; have c8b0 : decide ((rd l1 x6_1) < 0) = false := decide_eq_false c8; clear c8; by_cases c9 : (rd l1 x6_1) ≥ (l0.length : Int)
    ·rw [if_pos c9] at H
     have c9b0 : decide ((l0.length : Int) ≤ (rd l1 x6_1)) = true := decide_eq_true c9; clear c9; simp only [Option.some.injEq, Prod.mk.injEq] at H; obtain ⟨rfl, rfl⟩ := H; have p102 : 0 ≤ (x6_1 : Int) := oD; have q102 : x6_1 < (l1.length : Int) := oD; obtain ⟨ad102, e102, hx102_0⟩ := Kd.at_int HR1.out x6_1 p102 q102
     cases e102
     replace hx102_0 := (HB.out.cell (World.block_lt_of_cell? w _ hx102_0)).trans hx102_0; replace p102 := eq_true p102; replace q102 := eq_true q102; have p103 : 0 ≤ (x6_1 : Int) := oD; have q103 : x6_1 < (l1.length : Int) := oD; obtain ⟨ad103, e103, hx103_0⟩ := Kd.at_int HR1.out x6_1 p103 q103
     obtain rfl : ad102 = ad103 := (by injection e103)
     replace hx103_0 := (HB.out.cell (World.block_lt_of_cell? w _ hx103_0)).trans hx103_0; replace p103 := eq_true p103; replace q103 := eq_true q103
     go_wp2
     repeat (go_quiet (fail); try go_wp2)
     go_ret2
     exact ⟨eQ, by repeat (first | (with_reducible first | exact HB.out | apply below_alloc | apply pw_below_drewN | apply below_drew1) | exact HB.out)⟩
    rw [if_neg c9] at H; have c9b0 : decide ((l0.length : Int) ≤ (rd l1 x6_1)) = false := decide_eq_false c9; clear c9; by_cases c10 : x6_1 > 0; rotate_left
    ·rw [if_neg c10] at H
     have c10b0 : decide (0 < x6_1) = false := decide_eq_false c10; clear c10; have H' := A_ H; clear H; have p102 : 0 ≤ (x6_1 : Int) := oD; have q102 : x6_1 < (l1.length : Int) := oD; obtain ⟨ad102, e102, hx102_0⟩ := Kd.at_int HR1.out x6_1 p102 q102
     cases e102
     replace hx102_0 := (HB.out.cell (World.block_lt_of_cell? w _ hx102_0)).trans hx102_0; replace p102 := eq_true p102; replace q102 := eq_true q102; have p103 : 0 ≤ (x6_1 : Int) := oD; have q103 : x6_1 < (l1.length : Int) := oD; obtain ⟨ad103, e103, hx103_0⟩ := Kd.at_int HR1.out x6_1 p103 q103
     obtain rfl : ad102 = ad103 := (by injection e103)
     replace hx103_0 := (HB.out.cell (World.block_lt_of_cell? w _ hx103_0)).trans hx103_0; replace p103 := eq_true p103; replace q103 := eq_true q103
     go_wp2
     repeat (go_quiet (fail); try go_wp2)
     go_roundg k1
     case measure => have := HK1.out; omega
     case rel => exact ⟨(wrap64 (x6_1 + 1)), eS, H', ⟨by have := HK1.out; omega⟩, ⟨by repeat (first | (with_reducible first | exact HB.out | apply below_alloc | apply pw_below_drewN | apply below_drew1) | exact HB.out)⟩⟩
    rw [if_pos c10] at H; have c10b0 : decide (0 < x6_1) = true := decide_eq_true c10; clear c10; obtain ⟨ji11, hji11⟩ : ∃ j_ : Int, (wrap64 (x6_1 - 1)) = j_ := ⟨_, rfl⟩
    replace H : (if 0 ≤ (ji11) then (if (ji11) < (l1.length : Int) then (if (rd l1 x6_1) ≤ (rd l1 (ji11)) then (some (false, 0)) else (dropperref03_ArePieces.l0 k1 l0 l1 (wrap64 (x6_1 + 1)))) else (none)) else (none)) = some (r1, r2) := by first | (rw [hji11] at H; exact H) | (simp only [hji11] at H ⊢; exact H)
    have hji11w : (IntKind.i64.wrap (x6_1 - 1)) = ji11 := (i64_w _).trans hji11; by_cases c12 : 0 ≤ (ji11); rotate_left
    ·rw [if_neg c12] at H
     exact absurd H (by simp)
    rw [if_pos c12] at H; have c12b0 : decide (0 ≤ (ji11)) = true := decide_eq_true c12; clear c12; by_cases c13 : (ji11) < (l1.length : Int); rotate_left
    ·rw [if_neg c13] at H
     exact absurd H (by simp)
    rw [if_pos c13] at H; have c13b0 : decide ((ji11) < (l1.length : Int)) = true := decide_eq_true c13; clear c13; by_cases c14 : (rd l1 x6_1) ≤ (rd l1 (ji11)); rotate_left
    ·rw [if_neg c14] at H
     have c14b0 : decide ((rd l1 x6_1) ≤ (rd l1 (ji11))) = false := decide_eq_false c14; clear c14; have H' := A_ H; clear H; have p102 : 0 ≤ (x6_1 : Int) := oD; have q102 : x6_1 < (l1.length : Int) := oD; obtain ⟨ad102, e102, hx102_0⟩ := Kd.at_int HR1.out x6_1 p102 q102
     cases e102
     replace hx102_0 := (HB.out.cell (World.block_lt_of_cell? w _ hx102_0)).trans hx102_0; replace p102 := eq_true p102; replace q102 := eq_true q102; have p103 : 0 ≤ (x6_1 : Int) := oD; have q103 : x6_1 < (l1.length : Int) := oD; obtain ⟨ad103, e103, hx103_0⟩ := Kd.at_int HR1.out x6_1 p103 q103
     obtain rfl : ad102 = ad103 := (by injection e103)
     replace hx103_0 := (HB.out.cell (World.block_lt_of_cell? w _ hx103_0)).trans hx103_0; replace p103 := eq_true p103; replace q103 := eq_true q103; have p104 : 0 ≤ (x6_1 : Int) := oD; have q104 : x6_1 < (l1.length : Int) := oD; obtain ⟨ad104, e104, hx104_0⟩ := Kd.at_int HR1.out x6_1 p104 q104
     obtain rfl : ad102 = ad104 := (by injection e104)
     replace hx104_0 := (HB.out.cell (World.block_lt_of_cell? w _ hx104_0)).trans hx104_0; replace p104 := eq_true p104; replace q104 := eq_true q104; have p105 : 0 ≤ ((ji11) : Int) := oD; have q105 : (ji11) < (l1.length : Int) := oD; obtain ⟨ad105, e105, hx105_0⟩ := Kd.at_int HR1.out (ji11) p105 q105
     obtain rfl : ad102 = ad105 := (by injection e105)
     replace hx105_0 := (HB.out.cell (World.block_lt_of_cell? w _ hx105_0)).trans hx105_0; replace p105 := eq_true p105; replace q105 := eq_true q105
     go_wp2
     repeat (go_quiet (fail); try go_wp2)
     go_roundg k1
     case measure => have := HK1.out; omega
     case rel => exact ⟨(wrap64 (x6_1 + 1)), eS, H', ⟨by have := HK1.out; omega⟩, ⟨by repeat (first | (with_reducible first | exact HB.out | apply below_alloc | apply pw_below_drewN | apply below_drew1) | exact HB.out)⟩⟩
    rw [if_pos c14] at H; have c14b0 : decide ((rd l1 x6_1) ≤ (rd l1 (ji11))) = true := decide_eq_true c14; clear c14; simp only [Option.some.injEq, Prod.mk.injEq] at H; obtain ⟨rfl, rfl⟩ := H; have p102 : 0 ≤ (x6_1 : Int) := oD; have q102 : x6_1 < (l1.length : Int) := oD; obtain ⟨ad102, e102, hx102_0⟩ := Kd.at_int HR1.out x6_1 p102 q102
    cases e102
    replace hx102_0 := (HB.out.cell (World.block_lt_of_cell? w _ hx102_0)).trans hx102_0; replace p102 := eq_true p102; replace q102 := eq_true q102; have p103 : 0 ≤ (x6_1 : Int) := oD; have q103 : x6_1 < (l1.length : Int) := oD; obtain ⟨ad103, e103, hx103_0⟩ := Kd.at_int HR1.out x6_1 p103 q103
    obtain rfl : ad102 = ad103 := (by injection e103)
    replace hx103_0 := (HB.out.cell (World.block_lt_of_cell? w _ hx103_0)).trans hx103_0; replace p103 := eq_true p103; replace q103 := eq_true q103; have p104 : 0 ≤ (x6_1 : Int) := oD; have q104 : x6_1 < (l1.length : Int) := oD; obtain ⟨ad104, e104, hx104_0⟩ := Kd.at_int HR1.out x6_1 p104 q104
    obtain rfl : ad102 = ad104 := (by injection e104)
    replace hx104_0 := (HB.out.cell (World.block_lt_of_cell? w _ hx104_0)).trans hx104_0; replace p104 := eq_true p104; replace q104 := eq_true q104; have p105 : 0 ≤ ((ji11) : Int) := oD; have q105 : (ji11) < (l1.length : Int) := oD; obtain ⟨ad105, e105, hx105_0⟩ := Kd.at_int HR1.out (ji11) p105 q105
    obtain rfl : ad102 = ad105 := (by injection e105)
    replace hx105_0 := (HB.out.cell (World.block_lt_of_cell? w _ hx105_0)).trans hx105_0; replace p105 := eq_true p105; replace q105 := eq_true q105
    go_wp2
    repeat (go_quiet (fail); try go_wp2)
    go_ret2
    exact ⟨by first | rfl | (simp [errW_none, errW_some] <;> rfl) | (simp only [← hji11]; first | rfl | (simp [errW_none, errW_some] <;> rfl)) | (simp [*, errW_none, errW_some] <;> rfl), by repeat (first | (with_reducible first | exact HB.out | apply below_alloc | apply pw_below_drewN | apply below_drew1) | exact HB.out)⟩
   rw [if_neg c6] at H; have c6b0 : decide (x6_1 < (l1.length : Int)) = false := decide_eq_false c6; clear c6; have HC15 := A_ H; clear H
   go_upto_region 8 with (fail)
   repeat (go_quiet (fail); go_upto_region 8 with (fail))
   go_cut [56] (fun v56 wc => ∃ (kq : Nat) (x56_14 : Bool), v56 = .bool x56_14 ∧ Aside0 (dropperref03_ArePieces.j1 kq l0 l1 x56_14 = some (r1, r2)) ∧ Aside0 (kq ≤ k1) ∧ Aside0 (Below w.heap.size w wc))
   case first =>
    have H := HC15.out; clear HC15; by_cases c16 : (l1.length : Int) = 0
    ·rw [if_pos c16] at H
     have c16b0 : ((l1.length : Int) == 0) = true := beq_iff_eq.mpr c16; have c16b1 : ((l1.length : Int) != 0) = false := bne_eq_false_iff_eq.mpr c16; clear c16
     (first | rw [c16b0] | (simp only [i64_w, i32_w]; rw [c16b0]) | skip)
     have H' := A_ H; clear H
     go_wp2
     repeat (go_quiet (fail); try go_wp2)
     go_meet
     case rel => exact ⟨_, (true), eS, H', ⟨by have := HK1.out; first | omega | exact Nat.le_refl _⟩, ⟨by repeat (first | (with_reducible first | exact HB.out | apply below_alloc | apply pw_below_drewN | apply below_drew1) | exact HB.out)⟩⟩
    rw [if_neg c16] at H; have c16b0 : ((l1.length : Int) == 0) = false := beq_eq_false_iff_ne.mpr c16; have c16b1 : ((l1.length : Int) != 0) = true := bne_iff_ne.mpr c16
    have c16b2 : ¬ (l1 = []) := fun h_ => c16 (by rw [h_]; rfl)
    (first | rw [c16b0] | (simp only [i64_w, i32_w]; rw [c16b0]) | skip)
    by_cases c17 : 0 < (l1.length : Int); rotate_left
    ·rw [if_neg c17] at H
     exact absurd H (by simp)
    rw [if_pos c17] at H; have c17b0 : decide (0 < (l1.length : Int)) = true := decide_eq_true c17
    have c17b1 : decide (0 < l1.length) = true := decide_eq_true (by omega)
    clear c17; have H' := A_ H; clear H
    have p106 : 0 ≤ (0 : Int) := (by omega)
    have q106 : 0 < (l1.length : Int) := oD; obtain ⟨ad106, e106, hx106_0⟩ := Kd.at_int HR1.out 0 p106 q106
    cases e106
    have qi106 : (0 < l1.length) = True := eq_true (by omega)
    (try rw [show ((0 : Int)).toNat = 0 from rfl] at hx106_0)
    (try rw [Addr.add_zero'] at hx106_0)
    replace hx106_0 := (HB.out.cell (World.block_lt_of_cell? w _ hx106_0)).trans hx106_0; replace p106 := eq_true p106; replace q106 := eq_true q106
    go_wp2
    repeat (go_quiet (fail); try go_wp2)
    go_meet
    case rel => exact ⟨_, (((rd l1 0) != 0)), eS, H', ⟨by have := HK1.out; first | omega | exact Nat.le_refl _⟩, ⟨by repeat (first | (with_reducible first | exact HB.out | apply below_alloc | apply pw_below_drewN | apply below_drew1) | exact HB.out)⟩⟩
   case rest =>
    clear HC15
    try clear c1; try clear p1; try clear q1; try clear hx1; try clear qi1; try clear p2; try clear c3; try clear c4; try clear c6; try clear c6b0; try clear p6; try clear c7; try clear c7b0; try clear c8; try clear c8b0; try clear c9; try clear c9b0; try clear c10; try clear c10b0; try clear p10; try clear q10; try clear hx10; try clear qi10; try clear c12; try clear c12b0; try clear c13; try clear c13b0; try clear c14; try clear c14b0; try clear c16; try clear c16b0; try clear c16b1; try clear c16b2; try clear c17; try clear c17b0; try clear c17b1; try clear hx102_0; try clear hx103_0; try clear hx104_0; try clear hx105_0; try clear hx106_0; try clear p102; try clear p103; try clear p104; try clear p105; try clear p106; try clear p2; try clear q102; try clear q103; try clear q104; try clear q105; try clear q106
    obtain ⟨kq, x56_14, rfl, HA, HJ14, HB⟩ := hcut
    cases kq with
    | zero => exact absurd HA.out (by simp [dropperref03_ArePieces.j1])
    | succ kj14 =>
     have H := HA.out; clear HA; simp only [dropperref03_ArePieces.j1] at H; by_cases c18 : x56_14 = true
     ·subst c18
      rw [if_pos rfl] at H; simp only [Option.some.injEq, Prod.mk.injEq] at H; obtain ⟨rfl, rfl⟩ := H
      go_wp2
      repeat (go_quiet (fail); try go_wp2)
      go_ret2
      exact ⟨eQ, by repeat (first | (with_reducible first | exact HB.out | apply below_alloc | apply pw_below_drewN | apply below_drew1) | exact HB.out)⟩
     replace c18 := Bool.eq_false_iff.mpr c18; subst c18; rw [if_neg (show ¬ (false = true) by decide)] at H; have H' := A_ H; clear H
     go_wp2
     repeat (go_quiet (fail); try go_wp2)
     go_loopg [7] kj14 (fun kq v7 w' => ∃ (x7_3 : Int), v7 = .int .i64 x7_3 ∧ Aside0 (dropperref03_ArePieces.l1 kq l0 l1 x7_3 = some (r1, r2)) ∧ Aside0 (kq ≤ kj14) ∧ Aside0 (Below w.heap.size w w'))
     case atStart => exact ⟨(0), eS, H', ⟨Nat.le_refl _⟩, ⟨by repeat (first | (with_reducible first | exact HB.out | apply below_alloc | apply pw_below_drewN | apply below_drew1) | exact HB.out)⟩⟩
     case round =>
      clear H'
      try clear c1; try clear p1; try clear q1; try clear hx1; try clear qi1; try clear p2; try clear c3; try clear c4; try clear c6; try clear c6b0; try clear p6; try clear c7; try clear c7b0; try clear c8; try clear c8b0; try clear c9; try clear c9b0; try clear c10; try clear c10b0; try clear p10; try clear q10; try clear hx10; try clear qi10; try clear c12; try clear c12b0; try clear c13; try clear c13b0; try clear c14; try clear c14b0; try clear c16; try clear c16b0; try clear c16b1; try clear c16b2; try clear c17; try clear c17b0; try clear c17b1; try clear c18; try clear hx102_0; try clear hx103_0; try clear hx104_0; try clear hx105_0; try clear hx106_0; try clear p1; try clear p10; try clear p102; try clear p103; try clear p104; try clear p105; try clear p106; try clear p2; try clear p6; try clear q1; try clear q10; try clear q102; try clear q103; try clear q104; try clear q105; try clear q106
      obtain ⟨x7_3, rfl, HA, HK3, HB⟩ := hrel
      cases gk with
      | zero => exact absurd HA.out (by simp [dropperref03_ArePieces.l1])
      | succ k3 =>
       have H := HA.out; clear HA; simp only [dropperref03_ArePieces.l1] at H; by_cases c19 : x7_3 < (l1.length : Int); rotate_left
       ·rw [if_neg c19] at H
        have c19b0 : decide (x7_3 < (l1.length : Int)) = false := decide_eq_false c19; clear c19; simp only [Option.some.injEq, Prod.mk.injEq] at H; obtain ⟨rfl, rfl⟩ := H
        go_wp2
        repeat (go_quiet (fail); try go_wp2)
        go_ret2
        exact ⟨eQ, by repeat (first | (with_reducible first | exact HB.out | apply below_alloc | apply pw_below_drewN | apply below_drew1) | exact HB.out)⟩
       rw [if_pos c19] at H; have c19b0 : decide (x7_3 < (l1.length : Int)) = true := decide_eq_true c19; clear c19; by_cases c20 : (wrap64 (x7_3 + 1)) < (l1.length : Int); rotate_left
       ·rw [if_neg c20] at H
        have c20b0 : decide ((wrap64 (x7_3 + 1)) < (l1.length : Int)) = false := decide_eq_false c20; clear c20; by_cases c33 : 0 ≤ x7_3; rotate_left
        ·rw [if_neg c33] at H
         exact absurd H (by simp)
        rw [if_pos c33] at H; have c33b0 : decide (0 ≤ x7_3) = true := decide_eq_true c33; clear c33; by_cases c34 : 0 ≤ (rd l1 x7_3); rotate_left
        ·rw [if_neg c34] at H
         exact absurd H (by simp)
        rw [if_pos c34] at H; have c34b0 := eq_true c34; have c34b1 : decide (0 ≤ (rd l1 x7_3)) = true := decide_eq_true c34; clear c34; by_cases c35 : (rd l1 x7_3) ≤ (l0.length : Int); rotate_left
        ·rw [if_neg c35] at H
         exact absurd H (by simp)
        rw [if_pos c35] at H; have c35b0 := eq_true c35; have c35b1 : decide ((rd l1 x7_3) ≤ (l0.length : Int)) = true := decide_eq_true c35; clear c35; by_cases c36 : (l0.length : Int) ≤ (l0.length : Int); rotate_left
        ·rw [if_neg c36] at H
         exact absurd H (by simp)
        rw [if_pos c36] at H; have c36b0 := eq_true c36; have c36b1 : decide ((l0.length : Int) ≤ (l0.length : Int)) = true := decide_eq_true c36; clear c36; obtain ⟨y115, hy115⟩ : ∃ y_ : List (S73), y_ = ((l0.take ((l0.length : Int) : Int).toNat).drop ((rd l1 x7_3) : Int).toNat) := ⟨_, rfl⟩
        replace H : ((dropperref03_Some.f k3 y115).bind fun t119 => (if t119 = true then (dropperref03_ArePieces.l1 k3 l0 l1 (wrap64 (x7_3 + 1))) else (some (false, 0)))) = some (r1, r2) := by first | (rw [hy115]; with_reducible exact H) | (have H2_ := (Option.bind_some _ _).symm.trans H; rw [hy115]; with_reducible exact H2_) | (have H2_ := (Option.bind_some _ _).symm.trans H; with_reducible exact H2_) | with_reducible exact H | (rw [hy115]; exact H) | exact H
        have Ny115 := A_ hy115; clear hy115; replace H := Option.bind_eq_some_iff.mp H; obtain ⟨t119, A370, H⟩ := H; (try dsimp only at H); have A37 := A_ A370; clear A370; by_cases c38 : t119 = true; rotate_left
        ·replace c38 := Bool.eq_false_iff.mpr c38
         subst c38; rw [if_neg (show ¬ (false = true) by decide)] at H; simp only [Option.some.injEq, Prod.mk.injEq] at H; obtain ⟨rfl, rfl⟩ := H; have p114 : 0 ≤ (x7_3 : Int) := oD; have q114 : x7_3 < (l1.length : Int) := oD; obtain ⟨ad114, e114, hx114_0⟩ := Kd.at_int HR1.out x7_3 p114 q114
         cases e114
         replace hx114_0 := (HB.out.cell (World.block_lt_of_cell? w _ hx114_0)).trans hx114_0; replace p114 := eq_true p114; replace q114 := eq_true q114; have q41 : ((l0.length : Int) : Int) ≤ ((l0.length : Int) : Int) := oD; obtain ⟨i041, hi041, _, hsz41, _⟩ := info_parts info73; have hroom41 : l0.length ≤ c0 := HC0.out; have hC41 : Kd.C k73 _ A0 l0.length l0 := HR0.out; have ql41 : ((rd l1 x7_3) : Int) ≤ ((l0.length : Int) : Int) := oD; have q041 : (0 : Int) ≤ ((rd l1 x7_3) : Int) := oD; have hcut41 := cut_mid (P := Try.prog) 30 73 .i64 .i64 Try.underlying30 hi041 3 hsz41 A0 l0.length c0 (rd l1 x7_3) (l0.length : Int) q041 ql41 q41 hroom41
         have hr41 := Kd.C_mid (lo := ((rd l1 x7_3) : Int).toNat) (hi := ((l0.length : Int) : Int).toNat) (c := c0) hC41 (by omega) (by omega) hroom41
         obtain ⟨A41, hA41⟩ : ∃ A1, A1 = (if c0 = ((rd l1 x7_3) : Int).toNat then A0 else (A0 : Option Addr).map (·.add (((rd l1 x7_3) : Int).toNat * 3))) := ⟨_, rfl⟩
         obtain ⟨c41, hc41⟩ : ∃ c1, c1 = c0 - ((rd l1 x7_3) : Int).toNat := ⟨_, rfl⟩
         have hy41 : y115.length = ((l0.length : Int) : Int).toNat - ((rd l1 x7_3) : Int).toNat := (by rw [Ny115.out, List.length_drop, List.length_take] <;> omega)
         rw [show ((l0).take ((l0.length : Int) : Int).toNat).drop ((rd l1 x7_3) : Int).toNat = y115 from Ny115.out.symm] at hr41
         replace hr41 : Kd.C k73 _ A41 y115.length y115 := (by rw [hA41]; exact hr41)
         rw [← hy41, ← hA41, ← hc41] at hcut41; have HR118 := A_ hr41
         have HC118 := A_ (show y115.length ≤ c41 from by rw [hy41, hc41]; exact Nat.sub_le_sub_right (Nat.le_trans (by omega) hroom41) _)
         clear hr41 hC41 hroom41 hi041 hsz41 hc41; have KY41 := A_ hy41; have KA41 := A_ hA41; clear hy41 hA41; replace q41 := eq_true q41
         go_wp2_with (first | (go_at_call 25; (with_reducible refine (dropperref03_Some.calls k3 _ _ y115 false _ ?side1 ?side2 A37.out).mono ?_); (case side1 => exact cU (Kd.C_below HR118.out HB.out)); (case side2 => exact HC118.out); rintro e w42 ⟨rfl, hb⟩; have n0_ := A_ (below_step (bW0 HB.out) hb); clear HB; have HB := n0_; clear n0_; (try clear hb)))
         repeat (go_quiet (first | (go_at_call 25; (with_reducible refine (dropperref03_Some.calls k3 _ _ y115 false _ ?side1 ?side2 A37.out).mono ?_); (case side1 => exact cU (Kd.C_below HR118.out HB.out)); (case side2 => exact HC118.out); rintro e w42 ⟨rfl, hb⟩; have n0_ := A_ (below_step (bW0 HB.out) hb); clear HB; have HB := n0_; clear n0_; (try clear hb))); try go_wp2_with (first | (go_at_call 25; (with_reducible refine (dropperref03_Some.calls k3 _ _ y115 false _ ?side1 ?side2 A37.out).mono ?_); (case side1 => exact cU (Kd.C_below HR118.out HB.out)); (case side2 => exact HC118.out); rintro e w42 ⟨rfl, hb⟩; have n0_ := A_ (below_step (bW0 HB.out) hb); clear HB; have HB := n0_; clear n0_; (try clear hb))))
         go_ret2
         exact ⟨eQ, by repeat (first | (with_reducible first | exact HB.out | apply below_alloc | apply pw_below_drewN | apply below_drew1) | exact HB.out)⟩
        subst c38; rw [if_pos rfl] at H; have H' := A_ H; clear H; have p114 : 0 ≤ (x7_3 : Int) := oD; have q114 : x7_3 < (l1.length : Int) := oD; obtain ⟨ad114, e114, hx114_0⟩ := Kd.at_int HR1.out x7_3 p114 q114
        cases e114
        replace hx114_0 := (HB.out.cell (World.block_lt_of_cell? w _ hx114_0)).trans hx114_0; replace p114 := eq_true p114; replace q114 := eq_true q114; have q39 : ((l0.length : Int) : Int) ≤ ((l0.length : Int) : Int) := oD; obtain ⟨i039, hi039, _, hsz39, _⟩ := info_parts info73; have hroom39 : l0.length ≤ c0 := HC0.out; have hC39 : Kd.C k73 _ A0 l0.length l0 := HR0.out; have ql39 : ((rd l1 x7_3) : Int) ≤ ((l0.length : Int) : Int) := oD; have q039 : (0 : Int) ≤ ((rd l1 x7_3) : Int) := oD; have hcut39 := cut_mid (P := Try.prog) 30 73 .i64 .i64 Try.underlying30 hi039 3 hsz39 A0 l0.length c0 (rd l1 x7_3) (l0.length : Int) q039 ql39 q39 hroom39
        have hr39 := Kd.C_mid (lo := ((rd l1 x7_3) : Int).toNat) (hi := ((l0.length : Int) : Int).toNat) (c := c0) hC39 (by omega) (by omega) hroom39
        obtain ⟨A39, hA39⟩ : ∃ A1, A1 = (if c0 = ((rd l1 x7_3) : Int).toNat then A0 else (A0 : Option Addr).map (·.add (((rd l1 x7_3) : Int).toNat * 3))) := ⟨_, rfl⟩
        obtain ⟨c39, hc39⟩ : ∃ c1, c1 = c0 - ((rd l1 x7_3) : Int).toNat := ⟨_, rfl⟩
        have hy39 : y115.length = ((l0.length : Int) : Int).toNat - ((rd l1 x7_3) : Int).toNat := (by rw [Ny115.out, List.length_drop, List.length_take] <;> omega)
        rw [show ((l0).take ((l0.length : Int) : Int).toNat).drop ((rd l1 x7_3) : Int).toNat = y115 from Ny115.out.symm] at hr39
        replace hr39 : Kd.C k73 _ A39 y115.length y115 := (by rw [hA39]; exact hr39)
        rw [← hy39, ← hA39, ← hc39] at hcut39; have HR118 := A_ hr39
        have HC118 := A_ (show y115.length ≤ c39 from by rw [hy39, hc39]; exact Nat.sub_le_sub_right (Nat.le_trans (by omega) hroom39) _)
        clear hr39 hC39 hroom39 hi039 hsz39 hc39; have KY39 := A_ hy39; have KA39 := A_ hA39; clear hy39 hA39; replace q39 := eq_true q39
        go_wp2_with (first | (go_at_call 25; (with_reducible refine (dropperref03_Some.calls k3 _ _ y115 true _ ?side1 ?side2 A37.out).mono ?_); (case side1 => exact cU (Kd.C_below HR118.out HB.out)); (case side2 => exact HC118.out); rintro e w40 ⟨rfl, hb⟩; have n0_ := A_ (below_step (bW0 HB.out) hb); clear HB; have HB := n0_; clear n0_; (try clear hb)))
        repeat (go_quiet (first | (go_at_call 25; (with_reducible refine (dropperref03_Some.calls k3 _ _ y115 true _ ?side1 ?side2 A37.out).mono ?_); (case side1 => exact cU (Kd.C_below HR118.out HB.out)); (case side2 => exact HC118.out); rintro e w40 ⟨rfl, hb⟩; have n0_ := A_ (below_step (bW0 HB.out) hb); clear HB; have HB := n0_; clear n0_; (try clear hb))); try go_wp2_with (first | (go_at_call 25; (with_reducible refine (dropperref03_Some.calls k3 _ _ y115 true _ ?side1 ?side2 A37.out).mono ?_); (case side1 => exact cU (Kd.C_below HR118.out HB.out)); (case side2 => exact HC118.out); rintro e w40 ⟨rfl, hb⟩; have n0_ := A_ (below_step (bW0 HB.out) hb); clear HB; have HB := n0_; clear n0_; (try clear hb))))
        go_roundg k3
        case measure => have := HK1.out; have := HJ14.out; have := HK3.out; omega
        case rel => exact ⟨(wrap64 (x7_3 + 1)), eS, H', ⟨by have := HK1.out; have := HJ14.out; have := HK3.out; omega⟩, ⟨by repeat (first | (with_reducible first | exact HB.out | apply below_alloc | apply pw_below_drewN | apply below_drew1) | exact HB.out)⟩⟩
       rw [if_pos c20] at H; have c20b0 : decide ((wrap64 (x7_3 + 1)) < (l1.length : Int)) = true := decide_eq_true c20; clear c20; obtain ⟨ji21, hji21⟩ : ∃ j_ : Int, (wrap64 (x7_3 + 1)) = j_ := ⟨_, rfl⟩
       replace H : (if 0 ≤ (ji21) then (if 0 ≤ x7_3 then (if 0 ≤ (rd l1 x7_3) then (if (rd l1 x7_3) ≤ (rd l1 (ji21)) then (if (rd l1 (ji21)) ≤ (l0.length : Int) then ((dropperref03_Some.f k3 ((l0.take ((rd l1 (ji21)) : Int).toNat).drop ((rd l1 x7_3) : Int).toNat)).bind fun t113 => (if t113 = true then (dropperref03_ArePieces.l1 k3 l0 l1 ji21) else (some (false, 0)))) else (none)) else (none)) else (none)) else (none)) else (none)) = some (r1, r2) := by first | (rw [hji21] at H; exact H) | (simp only [hji21] at H ⊢; exact H)
       (try rw [hji21] at c20b0)
       have hji21w : (IntKind.i64.wrap (x7_3 + 1)) = ji21 := (i64_w _).trans hji21; by_cases c22 : 0 ≤ (ji21); rotate_left
       ·rw [if_neg c22] at H
        exact absurd H (by simp)
       rw [if_pos c22] at H; have c22b0 : decide (0 ≤ (ji21)) = true := decide_eq_true c22; clear c22; by_cases c23 : 0 ≤ x7_3; rotate_left
       ·rw [if_neg c23] at H
        exact absurd H (by simp)
       rw [if_pos c23] at H; have c23b0 : decide (0 ≤ x7_3) = true := decide_eq_true c23; clear c23; by_cases c24 : 0 ≤ (rd l1 x7_3); rotate_left
       ·rw [if_neg c24] at H
        exact absurd H (by simp)
       rw [if_pos c24] at H; have c24b0 := eq_true c24; have c24b1 : decide (0 ≤ (rd l1 x7_3)) = true := decide_eq_true c24; clear c24; by_cases c25 : (rd l1 x7_3) ≤ (rd l1 (ji21)); rotate_left
       ·rw [if_neg c25] at H
        exact absurd H (by simp)
       rw [if_pos c25] at H; have c25b0 := eq_true c25; have c25b1 : decide ((rd l1 x7_3) ≤ (rd l1 (ji21))) = true := decide_eq_true c25; clear c25; by_cases c26 : (rd l1 (ji21)) ≤ (l0.length : Int); rotate_left
       ·rw [if_neg c26] at H
        exact absurd H (by simp)
       rw [if_pos c26] at H; have c26b0 := eq_true c26; have c26b1 : decide ((rd l1 (ji21)) ≤ (l0.length : Int)) = true := decide_eq_true c26; clear c26; obtain ⟨y109, hy109⟩ : ∃ y_ : List (S73), y_ = ((l0.take ((rd l1 (ji21)) : Int).toNat).drop ((rd l1 x7_3) : Int).toNat) := ⟨_, rfl⟩
       replace H : ((dropperref03_Some.f k3 y109).bind fun t113 => (if t113 = true then (dropperref03_ArePieces.l1 k3 l0 l1 ji21) else (some (false, 0)))) = some (r1, r2) := by first | (rw [hy109]; with_reducible exact H) | (have H2_ := (Option.bind_some _ _).symm.trans H; rw [hy109]; with_reducible exact H2_) | (have H2_ := (Option.bind_some _ _).symm.trans H; with_reducible exact H2_) | with_reducible exact H | (rw [hy109]; exact H) | exact H
       have Ny109 := A_ hy109; clear hy109; replace H := Option.bind_eq_some_iff.mp H; obtain ⟨t113, A270, H⟩ := H; (try dsimp only at H); have A27 := A_ A270; clear A270; by_cases c28 : t113 = true; rotate_left
       ·replace c28 := Bool.eq_false_iff.mpr c28
        subst c28; rw [if_neg (show ¬ (false = true) by decide)] at H; simp only [Option.some.injEq, Prod.mk.injEq] at H; obtain ⟨rfl, rfl⟩ := H; have p107 : 0 ≤ ((ji21) : Int) := oD; have q107 : (ji21) < (l1.length : Int) := oD; obtain ⟨ad107, e107, hx107_0⟩ := Kd.at_int HR1.out (ji21) p107 q107
        cases e107
        replace hx107_0 := (HB.out.cell (World.block_lt_of_cell? w _ hx107_0)).trans hx107_0; replace p107 := eq_true p107; replace q107 := eq_true q107; have p108 : 0 ≤ (x7_3 : Int) := oD; have q108 : x7_3 < (l1.length : Int) := oD; obtain ⟨ad108, e108, hx108_0⟩ := Kd.at_int HR1.out x7_3 p108 q108
        obtain rfl : ad107 = ad108 := (by injection e108)
        replace hx108_0 := (HB.out.cell (World.block_lt_of_cell? w _ hx108_0)).trans hx108_0; replace p108 := eq_true p108; replace q108 := eq_true q108; have q31 : ((rd l1 (ji21)) : Int) ≤ ((l0.length : Int) : Int) := oD; obtain ⟨i031, hi031, _, hsz31, _⟩ := info_parts info73; have hroom31 : l0.length ≤ c0 := HC0.out; have hC31 : Kd.C k73 _ A0 l0.length l0 := HR0.out; have ql31 : ((rd l1 x7_3) : Int) ≤ ((rd l1 (ji21)) : Int) := oD; have q031 : (0 : Int) ≤ ((rd l1 x7_3) : Int) := oD; have hcut31 := cut_mid (P := Try.prog) 30 73 .i64 .i64 Try.underlying30 hi031 3 hsz31 A0 l0.length c0 (rd l1 x7_3) (rd l1 (ji21)) q031 ql31 q31 hroom31
        have hr31 := Kd.C_mid (lo := ((rd l1 x7_3) : Int).toNat) (hi := ((rd l1 (ji21)) : Int).toNat) (c := c0) hC31 (by omega) (by omega) hroom31
        obtain ⟨A31, hA31⟩ : ∃ A1, A1 = (if c0 = ((rd l1 x7_3) : Int).toNat then A0 else (A0 : Option Addr).map (·.add (((rd l1 x7_3) : Int).toNat * 3))) := ⟨_, rfl⟩
        obtain ⟨c31, hc31⟩ : ∃ c1, c1 = c0 - ((rd l1 x7_3) : Int).toNat := ⟨_, rfl⟩
        have hy31 : y109.length = ((rd l1 (ji21)) : Int).toNat - ((rd l1 x7_3) : Int).toNat := (by rw [Ny109.out, List.length_drop, List.length_take] <;> omega)
        rw [show ((l0).take ((rd l1 (ji21)) : Int).toNat).drop ((rd l1 x7_3) : Int).toNat = y109 from Ny109.out.symm] at hr31
        replace hr31 : Kd.C k73 _ A31 y109.length y109 := (by rw [hA31]; exact hr31)
        rw [← hy31, ← hA31, ← hc31] at hcut31; have HR112 := A_ hr31
        have HC112 := A_ (show y109.length ≤ c31 from by rw [hy31, hc31]; exact Nat.sub_le_sub_right (Nat.le_trans (by omega) hroom31) _)
        clear hr31 hC31 hroom31 hi031 hsz31 hc31; have KY31 := A_ hy31; have KA31 := A_ hA31; clear hy31 hA31; replace q31 := eq_true q31
        go_wp2_with (first | (go_at_call 25; (with_reducible refine (dropperref03_Some.calls k3 _ _ y109 false _ ?side1 ?side2 A27.out).mono ?_); (case side1 => exact cU (Kd.C_below HR112.out HB.out)); (case side2 => exact HC112.out); rintro e w32 ⟨rfl, hb⟩; have n0_ := A_ (below_step (bW0 HB.out) hb); clear HB; have HB := n0_; clear n0_; (try clear hb)))
        repeat (go_quiet (first | (go_at_call 25; (with_reducible refine (dropperref03_Some.calls k3 _ _ y109 false _ ?side1 ?side2 A27.out).mono ?_); (case side1 => exact cU (Kd.C_below HR112.out HB.out)); (case side2 => exact HC112.out); rintro e w32 ⟨rfl, hb⟩; have n0_ := A_ (below_step (bW0 HB.out) hb); clear HB; have HB := n0_; clear n0_; (try clear hb))); try go_wp2_with (first | (go_at_call 25; (with_reducible refine (dropperref03_Some.calls k3 _ _ y109 false _ ?side1 ?side2 A27.out).mono ?_); (case side1 => exact cU (Kd.C_below HR112.out HB.out)); (case side2 => exact HC112.out); rintro e w32 ⟨rfl, hb⟩; have n0_ := A_ (below_step (bW0 HB.out) hb); clear HB; have HB := n0_; clear n0_; (try clear hb))))
        go_ret2
        exact ⟨by first | rfl | (simp [errW_none, errW_some] <;> rfl) | (simp only [← hji21]; first | rfl | (simp [errW_none, errW_some] <;> rfl)) | (simp [*, errW_none, errW_some] <;> rfl), by repeat (first | (with_reducible first | exact HB.out | apply below_alloc | apply pw_below_drewN | apply below_drew1) | exact HB.out)⟩
       subst c28; rw [if_pos rfl] at H; have H' := A_ H; clear H; have p107 : 0 ≤ ((ji21) : Int) := oD; have q107 : (ji21) < (l1.length : Int) := oD; obtain ⟨ad107, e107, hx107_0⟩ := Kd.at_int HR1.out (ji21) p107 q107
       cases e107
       replace hx107_0 := (HB.out.cell (World.block_lt_of_cell? w _ hx107_0)).trans hx107_0; replace p107 := eq_true p107; replace q107 := eq_true q107; have p108 : 0 ≤ (x7_3 : Int) := oD; have q108 : x7_3 < (l1.length : Int) := oD; obtain ⟨ad108, e108, hx108_0⟩ := Kd.at_int HR1.out x7_3 p108 q108
       obtain rfl : ad107 = ad108 := (by injection e108)
       replace hx108_0 := (HB.out.cell (World.block_lt_of_cell? w _ hx108_0)).trans hx108_0; replace p108 := eq_true p108; replace q108 := eq_true q108; have q29 : ((rd l1 (ji21)) : Int) ≤ ((l0.length : Int) : Int) := oD; obtain ⟨i029, hi029, _, hsz29, _⟩ := info_parts info73; have hroom29 : l0.length ≤ c0 := HC0.out; have hC29 : Kd.C k73 _ A0 l0.length l0 := HR0.out; have ql29 : ((rd l1 x7_3) : Int) ≤ ((rd l1 (ji21)) : Int) := oD; have q029 : (0 : Int) ≤ ((rd l1 x7_3) : Int) := oD; have hcut29 := cut_mid (P := Try.prog) 30 73 .i64 .i64 Try.underlying30 hi029 3 hsz29 A0 l0.length c0 (rd l1 x7_3) (rd l1 (ji21)) q029 ql29 q29 hroom29
       have hr29 := Kd.C_mid (lo := ((rd l1 x7_3) : Int).toNat) (hi := ((rd l1 (ji21)) : Int).toNat) (c := c0) hC29 (by omega) (by omega) hroom29
       obtain ⟨A29, hA29⟩ : ∃ A1, A1 = (if c0 = ((rd l1 x7_3) : Int).toNat then A0 else (A0 : Option Addr).map (·.add (((rd l1 x7_3) : Int).toNat * 3))) := ⟨_, rfl⟩
       obtain ⟨c29, hc29⟩ : ∃ c1, c1 = c0 - ((rd l1 x7_3) : Int).toNat := ⟨_, rfl⟩
       have hy29 : y109.length = ((rd l1 (ji21)) : Int).toNat - ((rd l1 x7_3) : Int).toNat := (by rw [Ny109.out, List.length_drop, List.length_take] <;> omega)
       rw [show ((l0).take ((rd l1 (ji21)) : Int).toNat).drop ((rd l1 x7_3) : Int).toNat = y109 from Ny109.out.symm] at hr29
       replace hr29 : Kd.C k73 _ A29 y109.length y109 := (by rw [hA29]; exact hr29)
       rw [← hy29, ← hA29, ← hc29] at hcut29; have HR112 := A_ hr29
       have HC112 := A_ (show y109.length ≤ c29 from by rw [hy29, hc29]; exact Nat.sub_le_sub_right (Nat.le_trans (by omega) hroom29) _)
       clear hr29 hC29 hroom29 hi029 hsz29 hc29; have KY29 := A_ hy29; have KA29 := A_ hA29; clear hy29 hA29; replace q29 := eq_true q29
       go_wp2_with (first | (go_at_call 25; (with_reducible refine (dropperref03_Some.calls k3 _ _ y109 true _ ?side1 ?side2 A27.out).mono ?_); (case side1 => exact cU (Kd.C_below HR112.out HB.out)); (case side2 => exact HC112.out); rintro e w30 ⟨rfl, hb⟩; have n0_ := A_ (below_step (bW0 HB.out) hb); clear HB; have HB := n0_; clear n0_; (try clear hb)))
       repeat (go_quiet (first | (go_at_call 25; (with_reducible refine (dropperref03_Some.calls k3 _ _ y109 true _ ?side1 ?side2 A27.out).mono ?_); (case side1 => exact cU (Kd.C_below HR112.out HB.out)); (case side2 => exact HC112.out); rintro e w30 ⟨rfl, hb⟩; have n0_ := A_ (below_step (bW0 HB.out) hb); clear HB; have HB := n0_; clear n0_; (try clear hb))); try go_wp2_with (first | (go_at_call 25; (with_reducible refine (dropperref03_Some.calls k3 _ _ y109 true _ ?side1 ?side2 A27.out).mono ?_); (case side1 => exact cU (Kd.C_below HR112.out HB.out)); (case side2 => exact HC112.out); rintro e w30 ⟨rfl, hb⟩; have n0_ := A_ (below_step (bW0 HB.out) hb); clear HB; have HB := n0_; clear n0_; (try clear hb))))
       go_roundg k3
       case measure => have := HK1.out; have := HJ14.out; have := HK3.out; omega
       case rel => exact ⟨(ji21), (by first | rfl | (simp; done) | (simp only [← hji21] <;> (first | rfl | simp)) | (simp [*]; done)), H', ⟨by have := HK1.out; have := HJ14.out; have := HK3.out; omega⟩, ⟨by repeat (first | (with_reducible first | exact HB.out | apply below_alloc | apply pw_below_drewN | apply below_drew1) | exact HB.out)⟩⟩
end Go.Proofs.Ytiapmkndgalgnaa.G
