/- Functions of the seat and plain laws about them: GF16, GF25. -/
import Derived.Test.YthbpibdfookbmaaGBase
import Derived.Test.YthbpibdfookbmaaZT0
section
namespace Go.Proofs.Ythbpibdfookbmaa.G
open Go.RowKit Go.Proofs.YthbpibdfookbmaaW.PrintWords Go.Proofs.YthbpibdfookbmaaW.PrintLast Go.Proofs.YthbpibdfookbmaaW.PrintMore
attribute [local go_sem] max2_int min2_int max_two min_two max_three min_three max_four min_four
set_option linter.unusedVariables false
set_option linter.unusedSimpArgs false
mutual
def ice_ByHalves.l0 : Nat → List Int → List Int → Int → Option (List Int × Int)
 | 0, _, _, _ => none
 | k + 1, x4, x6, x7 => if x7 ≤ 8 then (ice_ByHalves.l1 k x4 x6 x7 x4 (x4.length : Int) 0) else (some (x6, 0))
def ice_ByHalves.l1 : Nat → List Int → List Int → Int → List Int → Int → Int → Option (List Int × Int)
 | 0, _, _, _, _, _, _ => none
 | k + 1, x4, x6, x7, x25, x26, x27 => if x27 < x26 then (if 0 ≤ x27 then (if x27 < (x25.length : Int) then (if (rd x25 x27) = x7 then ((slices_Index_int_int.f k x6 (-1)).bind fun t112 => (if t112 < 0 then (some (([] : List Int), 5)) else (ice_ByHalves.l2 k x4 x6 x7 x27 t112 x25 x26 x27))) else (ice_ByHalves.l1 k x4 x6 x7 x25 x26 (wrap64 (x27 + 1)))) else (none)) else (none)) else (ice_ByHalves.l0 k x4 x6 (wrap64 (x7 * 2)))
def ice_ByHalves.l2 : Nat → List Int → List Int → Int → Int → Int → List Int → Int → Int → Option (List Int × Int)
 | 0, _, _, _, _, _, _, _, _ => none
 | k + 1, x4, x6, x7, x8, x10, x25, x26, x27 => if x10 < (x6.length : Int) then (if 0 ≤ x10 then (if (rd x6 x10) = (-1) then (ice_ByHalves.l2 k x4 (x6.set (x10 : Int).toNat x8) x7 x8 (wrap64 (x10 + x7)) x25 x26 x27) else (some (([] : List Int), 5))) else (none)) else (ice_ByHalves.l1 k x4 x6 x7 x25 x26 (wrap64 (x27 + 1)))
end
def ice_ByHalves.f (k : Nat) (l0 : List Int) : Option (List Int × Int) := (ice_Halves.f k l0).bind fun bt101 => (if bt101.2 = 0 then ((slices_Repeat_int_int.f (([(-1)] : List Int)) 8).bind fun t108 => (ice_ByHalves.l0 k bt101.1 t108 1)) else (some (([] : List Int), bt101.2)))
theorem ice_ByHalves.mono_l : ∀ k, (∀ y0 y1 y2, LeO (ice_ByHalves.l0 k y0 y1 y2) (ice_ByHalves.l0 (k + 1) y0 y1 y2)) ∧ (∀ y0 y1 y2 y3 y4 y5, LeO (ice_ByHalves.l1 k y0 y1 y2 y3 y4 y5) (ice_ByHalves.l1 (k + 1) y0 y1 y2 y3 y4 y5)) ∧ (∀ y0 y1 y2 y3 y4 y5 y6 y7, LeO (ice_ByHalves.l2 k y0 y1 y2 y3 y4 y5 y6 y7) (ice_ByHalves.l2 (k + 1) y0 y1 y2 y3 y4 y5 y6 y7))
 | 0 => ⟨fun _ _ _ r h => by simp [ice_ByHalves.l0] at h, fun _ _ _ _ _ _ r h => by simp [ice_ByHalves.l1] at h, fun _ _ _ _ _ _ _ _ r h => by simp [ice_ByHalves.l2] at h⟩
 | k + 1 => by
  obtain ⟨ih0, ih1, ih2⟩ := ice_ByHalves.mono_l k
  refine ⟨?_, ?_, ?_⟩
  ·intro y0 y1 y2
   unfold ice_ByHalves.l0
   repeat' first
   | (with_reducible exact ih0 _ _ _)
   | (with_reducible exact ih1 _ _ _ _ _ _)
   | (with_reducible exact ih2 _ _ _ _ _ _ _ _)
   | (with_reducible exact ice_Halves.mono _ _)
   | (with_reducible exact slices_Index_int_int.mono _ _ _)
   | (with_reducible exact LeO.refl _)
   | (with_reducible exact LeO.none _)
   | (with_reducible refine LeO.ite ?_ ?_)
   | (with_reducible refine LeO.bind ?_ (fun _ => ?_))
   | exact ih0 _ _ _
   | exact ih1 _ _ _ _ _ _
   | exact ih2 _ _ _ _ _ _ _ _
   | exact ice_Halves.mono _ _
   | exact slices_Index_int_int.mono _ _ _
   | exact LeO.none _
   | refine LeO.ite ?_ ?_
   | refine LeO.bind ?_ (fun _ => ?_)
  ·intro y0 y1 y2 y3 y4 y5
   unfold ice_ByHalves.l1
   repeat' first
   | (with_reducible exact ih0 _ _ _)
   | (with_reducible exact ih1 _ _ _ _ _ _)
   | (with_reducible exact ih2 _ _ _ _ _ _ _ _)
   | (with_reducible exact ice_Halves.mono _ _)
   | (with_reducible exact slices_Index_int_int.mono _ _ _)
   | (with_reducible exact LeO.refl _)
   | (with_reducible exact LeO.none _)
   | (with_reducible refine LeO.ite ?_ ?_)
   | (with_reducible refine LeO.bind ?_ (fun _ => ?_))
   | exact ih0 _ _ _
   | exact ih1 _ _ _ _ _ _
   | exact ih2 _ _ _ _ _ _ _ _
   | exact ice_Halves.mono _ _
   | exact slices_Index_int_int.mono _ _ _
   | exact LeO.none _
   | refine LeO.ite ?_ ?_
   | refine LeO.bind ?_ (fun _ => ?_)
  ·intro y0 y1 y2 y3 y4 y5 y6 y7
   unfold ice_ByHalves.l2
   repeat' first
   | (with_reducible exact ih0 _ _ _)
   | (with_reducible exact ih1 _ _ _ _ _ _)
   | (with_reducible exact ih2 _ _ _ _ _ _ _ _)
   | (with_reducible exact ice_Halves.mono _ _)
   | (with_reducible exact slices_Index_int_int.mono _ _ _)
   | (with_reducible exact LeO.refl _)
   | (with_reducible exact LeO.none _)
   | (with_reducible refine LeO.ite ?_ ?_)
   | (with_reducible refine LeO.bind ?_ (fun _ => ?_))
   | exact ih0 _ _ _
   | exact ih1 _ _ _ _ _ _
   | exact ih2 _ _ _ _ _ _ _ _
   | exact ice_Halves.mono _ _
   | exact slices_Index_int_int.mono _ _ _
   | exact LeO.none _
   | refine LeO.ite ?_ ?_
   | refine LeO.bind ?_ (fun _ => ?_)
theorem ice_ByHalves.mono : ∀ a0 k, LeO (ice_ByHalves.f k a0) (ice_ByHalves.f (k + 1) a0) := by
 intro a0 k
 obtain ⟨ih0, ih1, ih2⟩ := ice_ByHalves.mono_l k
 unfold ice_ByHalves.f
 repeat' first
   | (with_reducible exact ih0 _ _ _)
   | (with_reducible exact ih1 _ _ _ _ _ _)
   | (with_reducible exact ih2 _ _ _ _ _ _ _ _)
   | (with_reducible exact ice_Halves.mono _ _)
   | (with_reducible exact slices_Index_int_int.mono _ _ _)
   | (with_reducible exact LeO.refl _)
   | (with_reducible exact LeO.none _)
   | (with_reducible refine LeO.ite ?_ ?_)
   | (with_reducible refine LeO.bind ?_ (fun _ => ?_))
   | exact ih0 _ _ _
   | exact ih1 _ _ _ _ _ _
   | exact ih2 _ _ _ _ _ _ _ _
   | exact ice_Halves.mono _ _
   | exact slices_Index_int_int.mono _ _ _
   | exact LeO.none _
   | refine LeO.ite ?_ ?_
   | refine LeO.bind ?_ (fun _ => ?_)
set_option maxHeartbeats 8000000 in
set_option maxRecDepth 100000 in
theorem ice_ByHalves.calls (k : Nat) (A0 : Option Addr) (c0 : Nat) (l0 : List Int) (r1 : List Int) (r2 : Int) (w : World) (hr0 : Kd.C (Kd.int .i64) w A0 l0.length l0) (hc0 : l0.length ≤ c0) (h : ice_ByHalves.f k l0 = some (r1, r2)) :
  Calls Try.prog 16 #[.slice A0 l0.length c0] w fun e w' => ∃ v0_ : Value, e = .returned (.tuple #[v0_, .int .i64 r2]) ∧ Kd.R (Kd.int .i64) 3 w' w.heap.size (fun _ => True) v0_ r1 ∧ Below w.heap.size w w' := by
 have HR0 := A_ hr0; have HC0 := A_ hc0; clear hr0 hc0; have HB := A_ (Below.refl w.heap.size w)
 have H : ((ice_Halves.f k l0).bind fun bt101 => (if bt101.2 = 0 then ((slices_Repeat_int_int.f (([(-1)] : List Int)) 8).bind fun t108 => (ice_ByHalves.l0 k bt101.1 t108 1)) else (some (([] : List Int), bt101.2)))) = some (r1, r2) := h
 clear h; replace H := Option.bind_eq_some_iff.mp H; obtain ⟨⟨t101, t102⟩, A20, H⟩ := H; (try dsimp only at H); have A2 := A_ A20; clear A20; by_cases c3 : t102 = 0; rotate_left
 ·rw [if_neg c3] at H
  have c3b0 : (t102 == 0) = false := beq_eq_false_iff_ne.mpr c3; have c3b1 : (t102 != 0) = true := bne_iff_ne.mpr c3; simp only [Option.some.injEq, Prod.mk.injEq] at H; obtain ⟨rfl, rfl⟩ := H
  go_enter Try.func16, Try.ntmps16
  go_wp2_with (first | ((with_reducible refine gate_callee (f := 13) rfl ?_); refine goesW_ (some 13) Try.func13 #[.slice A0 l0.length c0] ?_; (with_reducible refine (ice_Halves.calls k _ _ l0 t101 t102 _ ?side1 ?side2 A2.out).mono ?_); (case side1 => exact cU HR0.out); (case side2 => exact HC0.out); rintro e w26 ⟨v103, rfl, ho0, hb⟩; refine ⟨_, rfl, ?_⟩; have n0_ := A_ (Kd.R_lower ho0 (below_size (bW0 HB.out))); have n1_ := A_ (below_step (bW0 HB.out) hb); clear HB; have HO104 := n0_; have HB := n1_; clear n0_ n1_; (try clear hb); (try clear ho0)))
  go_ret2
  exact ⟨_, by first | rfl | (simp [errW_none, errW_some] <;> rfl) | (simp [*, errW_none, errW_some] <;> rfl), by first | exact Kd.R_nil _ _ _ _ _ | exact Kd.N_nil _ _ _ _ _ | exact Kd.V_nil _ _ _ _ _ | exact Kd.Q_nil _ _ _ _ _ | exact Kd.S_nil _ _ _ _ _, by repeat (first | (with_reducible first | exact HB.out | apply below_alloc | apply pw_below_drewN | apply below_drew1) | exact HB.out)⟩
 rw [if_pos c3] at H; have c3b0 : (t102 == 0) = true := beq_iff_eq.mpr c3; have c3b1 : (t102 != 0) = false := bne_eq_false_iff_eq.mpr c3; clear c3; obtain ⟨y105, hy105⟩ : ∃ y_ : List Int, y_ = (([(-1)] : List Int)) := ⟨_, rfl⟩
 replace H : ((slices_Repeat_int_int.f y105 8).bind fun t108 => (ice_ByHalves.l0 k t101 t108 1)) = some (r1, r2) := by first | (rw [hy105]; with_reducible exact H) | (have H2_ := (Option.bind_some _ _).symm.trans H; rw [hy105]; with_reducible exact H2_) | (have H2_ := (Option.bind_some _ _).symm.trans H; with_reducible exact H2_) | with_reducible exact H | (rw [hy105]; exact H) | exact H
 have Ny105 := A_ hy105; clear hy105; replace H := Option.bind_eq_some_iff.mp H; obtain ⟨t108, A40, H⟩ := H; (try dsimp only at H); have A4 := A_ A40; clear A40; have H' := A_ H; clear H
 go_enter Try.func16, Try.ntmps16
 go_wp2_with (first | ((with_reducible refine gate_callee (f := 13) rfl ?_); refine goesW_ (some 13) Try.func13 #[.slice A0 l0.length c0] ?_; (with_reducible refine (ice_Halves.calls k _ _ l0 t101 t102 _ ?side1 ?side2 A2.out).mono ?_); (case side1 => exact cU HR0.out); (case side2 => exact HC0.out); rintro e w5 ⟨v103, rfl, ho0, hb⟩; refine ⟨_, rfl, ?_⟩; have n0_ := A_ (Kd.R_lower ho0 (below_size (bW0 HB.out))); have n1_ := A_ (below_step (bW0 HB.out) hb); clear HB; have HO104 := n0_; have HB := n1_; clear n0_ n1_; (try clear hb); (try clear ho0)) | ((with_reducible refine gate_dst (N := 19) rfl ?_); refine Kd.R_lit (Kd.int .i64) _ 3 ?hg (N := 19) ?hd (xs := ([(-1)] : List Int)) (inner := [.int .i64 (-1)]) (ok := fun _ => True) (okp := fun _ => True) ?hr ?hp (fun _ hk => hk) trivial (Below.refl _ _) (Nat.le_refl _) (by simp) ?_; (case hd => rfl); (case hg => rfl); (case hr => first | (go_simp; done) | (go_simp; rfl)); (case hp => exact (Reps.one (show Kd.M (Kd.int .i64) _ _ _ (-1) [.int .i64 (-1)] from rfl) (Reps.none _ _))); intro v106 w6 ho7 hb hg_ hnew_; clear hg_ hnew_; (first | rw [← Ny105.out] at ho7 | (simp only [Int.reduceToNat] at ho7; rw [← Ny105.out] at ho7)); have n0_ := A_ (Kd.R_elder' (rU HO104.out) (Kd.R_base ho7) hb); have n1_ := A_ (Kd.R_lower (Kd.R_new' ho7 (Kd.R_lt (rU HO104.out))) (below_size (bW0 HB.out))); have n2_ := A_ (below_step (bW0 HB.out) hb); clear HO104; clear HB; have HO104 := n0_; have HO107 := n1_; have HB := n2_; clear n0_ n1_ n2_; clear hb ho7; obtain ⟨Ao8, co8, eo8⟩ := Kd.R_slice HO107.out; subst eo8) | ((with_reducible refine gate_callee (f := 48) rfl ?_); refine goesW_ (some 20) Try.func48 #[.slice Ao8 y105.length co8, .int .i64 8] ?_; (with_reducible refine (slices_Repeat_int_int.calls _ _ y105 8 t108 _ ?side1 ?side2 A4.out).mono ?_); (case side1 => exact cU (Kd.R_reads' HO107.out).2.2); (case side2 => exact (Kd.R_reads' HO107.out).2.1); rintro e w9 ⟨v109, rfl, ho0, hb⟩; refine ⟨_, rfl, ?_⟩; have n0_ := A_ (Kd.R_elder' (rU HO104.out) (Kd.R_base ho0) hb); have n1_ := A_ (Kd.R_elder' (rU HO107.out) (Kd.R_base ho0) hb); have n2_ := A_ (Kd.R_lower (Kd.R_new' (Kd.R_new' ho0 (Kd.R_lt (rU HO104.out))) (Kd.R_lt (rU HO107.out))) (below_size (bW0 HB.out))); have n3_ := A_ (below_step (bW0 HB.out) hb); clear HO104; clear HO107; clear HB; have HO104 := n0_; have HO107 := n1_; have HO110 := n2_; have HB := n3_; clear n0_ n1_ n2_ n3_; (try clear hb); (try clear ho0)))
 go_loopg [7] k (fun kq v7 w' => ∃ (x6_1 : List Int) (x7_1 : Int), v7 = .int .i64 x7_1 ∧ Aside0 (ice_ByHalves.l0 kq t101 x6_1 x7_1 = some (r1, r2)) ∧ Aside0 (kq ≤ k) ∧ Aside0 (Kd.R (Kd.int .i64) 3 w' w.heap.size (fun k_ => some k_ ≠ (v109 : Value).ownBlock) v103 t101) ∧ Aside0 (Kd.R (Kd.int .i64) 3 w' w.heap.size (fun k_ => some k_ ≠ (v103 : Value).ownBlock) v109 x6_1) ∧ Aside0 (Below w.heap.size w w'))
 case atStart => exact ⟨(t108), (1), eS, H', ⟨Nat.le_refl _⟩, ⟨by (with_reducible repeat (first | apply Kd.R_alloc | apply Kd.R_drewN | apply Kd.R_drew)); exact Kd.R_mono HO104.out (fun _ hk => hk.2)⟩, ⟨by (with_reducible repeat (first | apply Kd.R_alloc | apply Kd.R_drewN | apply Kd.R_drew)); exact Kd.R_mono HO110.out (fun _ hk => hk.1.2)⟩, ⟨by repeat (first | (with_reducible first | exact HB.out | apply below_alloc | apply pw_below_drewN | apply below_drew1) | exact HB.out)⟩⟩
 case round =>
  clear H'
  try clear c1; try clear p2; try clear c3; try clear c3b0; try clear c3b1; try clear c4
  obtain ⟨x6_1, x7_1, rfl, HA, HK1, HO_4, HO_6, HB⟩ := hrel
  cases gk with
  | zero => exact absurd HA.out (by simp [ice_ByHalves.l0])
  | succ k1 =>
   have H := HA.out; clear HA; simp only [ice_ByHalves.l0] at H; by_cases c10 : x7_1 ≤ 8; rotate_left
   ·rw [if_neg c10] at H
    have c10b0 : decide (x7_1 ≤ 8) = false := decide_eq_false c10; clear c10; simp only [Option.some.injEq, Prod.mk.injEq] at H; obtain ⟨rfl, rfl⟩ := H
    go_wp2
    go_ret2
    exact ⟨_, by first | rfl | (simp [errW_none, errW_some] <;> rfl) | (simp [*, errW_none, errW_some] <;> rfl), by (with_reducible repeat (first | apply Kd.R_alloc | apply Kd.R_drewN | apply Kd.R_drew)); exact Kd.R_mono HO_6.out (fun _ hk => trivial), by repeat (first | (with_reducible first | exact HB.out | apply below_alloc | apply pw_below_drewN | apply below_drew1) | exact HB.out)⟩
   rw [if_pos c10] at H; have c10b0 : decide (x7_1 ≤ 8) = true := decide_eq_true c10; clear c10; have H' := A_ H; clear H; obtain ⟨Ao11, co11, eo11⟩ := Kd.R_slice HO_4.out; subst eo11
   go_wp2
   go_loopg [27] k1 (fun kq v27 w' => ∃ (x6_2 : List Int) (x27_2 : Int), v27 = .int .i64 x27_2 ∧ Aside0 (ice_ByHalves.l1 kq t101 x6_2 x7_1 t101 (t101.length : Int) x27_2 = some (r1, r2)) ∧ Aside0 (kq ≤ k1) ∧ Aside0 (Kd.R (Kd.int .i64) 3 w' w.heap.size (fun k_ => some k_ ≠ (v109 : Value).ownBlock) (.slice Ao11 t101.length co11) t101) ∧ Aside0 (Kd.R (Kd.int .i64) 3 w' w.heap.size (fun k_ => some k_ ≠ ((.slice Ao11 t101.length co11) : Value).ownBlock ∧ some k_ ≠ ((.slice Ao11 t101.length co11) : Value).ownBlock) v109 x6_2) ∧ Aside0 (Kd.R (Kd.int .i64) 3 w' w.heap.size (fun k_ => some k_ ≠ (v109 : Value).ownBlock) (.slice Ao11 t101.length co11) t101) ∧ Aside0 (Below w.heap.size w w'))
   case atStart => exact ⟨(x6_1), (0), eS, H', ⟨Nat.le_refl _⟩, ⟨rU HO_4.out⟩, ⟨by (with_reducible repeat (first | apply Kd.R_alloc | apply Kd.R_drewN | apply Kd.R_drew)); exact Kd.R_mono HO_6.out (fun _ hk => ⟨hk, hk⟩)⟩, ⟨rU HO_4.out⟩, ⟨by repeat (first | (with_reducible first | exact HB.out | apply below_alloc | apply pw_below_drewN | apply below_drew1) | exact HB.out)⟩⟩
   case round =>
    clear H'
    try clear c1; try clear p2; try clear c3; try clear c3b0; try clear c3b1; try clear c4; try clear c10; try clear c10b0; try clear p2
    obtain ⟨x6_2, x27_2, rfl, HA, HK2, HO_4, HO_6, HO_25, HB⟩ := hrel
    cases gk with
    | zero => exact absurd HA.out (by simp [ice_ByHalves.l1])
    | succ k2 =>
     have H := HA.out; clear HA; simp only [ice_ByHalves.l1] at H; by_cases c12 : x27_2 < (t101.length : Int); rotate_left
     ·rw [if_neg c12] at H
      have c12b0 : decide (x27_2 < (t101.length : Int)) = false := decide_eq_false c12; clear c12; have H' := A_ H; clear H
      go_wp2
      go_roundg k2
      case measure => have := HK1.out; have := HK2.out; omega
      case rel => exact ⟨(x6_2), (wrap64 (x7_1 * 2)), eS, H', ⟨by have := HK1.out; have := HK2.out; omega⟩, ⟨rU HO_4.out⟩, ⟨by (with_reducible repeat (first | apply Kd.R_alloc | apply Kd.R_drewN | apply Kd.R_drew)); exact Kd.R_mono HO_6.out (fun _ hk => hk.1)⟩, ⟨by repeat (first | (with_reducible first | exact HB.out | apply below_alloc | apply pw_below_drewN | apply below_drew1) | exact HB.out)⟩⟩
     rw [if_pos c12] at H; have c12b0 : decide (x27_2 < (t101.length : Int)) = true := decide_eq_true c12; clear c12; by_cases c13 : 0 ≤ x27_2; rotate_left
     ·rw [if_neg c13] at H
      exact absurd H (by simp)
     rw [if_pos c13] at H; have c13b0 : decide (0 ≤ x27_2) = true := decide_eq_true c13; clear c13; by_cases c14 : x27_2 < (t101.length : Int); rotate_left
     ·rw [if_neg c14] at H
      exact absurd H (by simp)
     rw [if_pos c14] at H; have c14b0 : decide (x27_2 < (t101.length : Int)) = true := decide_eq_true c14; clear c14; by_cases c15 : (rd t101 x27_2) = x7_1; rotate_left
     ·rw [if_neg c15] at H
      have c15b0 : ((rd t101 x27_2) == x7_1) = false := beq_eq_false_iff_ne.mpr c15; have c15b1 : ((rd t101 x27_2) != x7_1) = true := bne_iff_ne.mpr c15; have H' := A_ H; clear H; have p111 : 0 ≤ (x27_2 : Int) := oD; have q111 : x27_2 < (t101.length : Int) := oD; obtain ⟨ad111, e111, hx111_0⟩ := Kd.at_int (Kd.R_reads' HO_25.out).2.2 x27_2 p111 q111
      cases e111
      replace p111 := eq_true p111; replace q111 := eq_true q111
      go_wp2
      go_roundg k2
      case measure => have := HK1.out; have := HK2.out; omega
      case rel => exact ⟨(x6_2), (wrap64 (x27_2 + 1)), eS, H', ⟨by have := HK1.out; have := HK2.out; omega⟩, ⟨rU HO_4.out⟩, ⟨rU HO_6.out⟩, ⟨rU HO_25.out⟩, ⟨by repeat (first | (with_reducible first | exact HB.out | apply below_alloc | apply pw_below_drewN | apply below_drew1) | exact HB.out)⟩⟩
     rw [if_pos c15] at H; have c15b0 : ((rd t101 x27_2) == x7_1) = true := beq_iff_eq.mpr c15; have c15b1 : ((rd t101 x27_2) != x7_1) = false := bne_eq_false_iff_eq.mpr c15; clear c15; replace H := Option.bind_eq_some_iff.mp H; obtain ⟨t112, A160, H⟩ := H; (try dsimp only at H); have A16 := A_ A160; clear A160; by_cases c17 : t112 < 0
     ·rw [if_pos c17] at H
      have c17b0 : decide (t112 < 0) = true := decide_eq_true c17; clear c17; simp only [Option.some.injEq, Prod.mk.injEq] at H; obtain ⟨rfl, rfl⟩ := H; have p111 : 0 ≤ (x27_2 : Int) := oD; have q111 : x27_2 < (t101.length : Int) := oD; obtain ⟨ad111, e111, hx111_0⟩ := Kd.at_int (Kd.R_reads' HO_25.out).2.2 x27_2 p111 q111
      cases e111
      replace p111 := eq_true p111; replace q111 := eq_true q111; obtain ⟨Ao18, co18, eo18⟩ := Kd.R_slice HO_6.out; subst eo18
      go_wp2_with (first | ((with_reducible refine gate_callee (f := 49) rfl ?_); refine goesW_ (some 36) Try.func49 #[.slice Ao18 x6_2.length co18, .int .i64 (-1)] ?_; (with_reducible refine (slices_Index_int_int.calls k2 _ _ x6_2 (-1) t112 _ ?side1 ?side2 A16.out).mono ?_); (case side1 => exact cU (Kd.R_reads' HO_6.out).2.2); (case side2 => exact (Kd.R_reads' HO_6.out).2.1); rintro e w' ⟨rfl, ⟨nd, rfl⟩⟩; refine ⟨_, rfl, ?_⟩))
      go_ret2
      exact ⟨_, by first | rfl | (simp [errW_none, errW_some] <;> rfl) | (simp [*, errW_none, errW_some] <;> rfl), by first | exact Kd.R_nil _ _ _ _ _ | exact Kd.N_nil _ _ _ _ _ | exact Kd.V_nil _ _ _ _ _ | exact Kd.Q_nil _ _ _ _ _ | exact Kd.S_nil _ _ _ _ _, by repeat (first | (with_reducible first | exact HB.out | apply below_alloc | apply pw_below_drewN | apply below_drew1) | exact HB.out)⟩
     rw [if_neg c17] at H; have c17b0 : decide (t112 < 0) = false := decide_eq_false c17; clear c17; have H' := A_ H; clear H; have p111 : 0 ≤ (x27_2 : Int) := oD; have q111 : x27_2 < (t101.length : Int) := oD; obtain ⟨ad111, e111, hx111_0⟩ := Kd.at_int (Kd.R_reads' HO_25.out).2.2 x27_2 p111 q111
     cases e111
     replace p111 := eq_true p111; replace q111 := eq_true q111; obtain ⟨Ao19, co19, eo19⟩ := Kd.R_slice HO_6.out; subst eo19
     go_wp2_with (first | ((with_reducible refine gate_callee (f := 49) rfl ?_); refine goesW_ (some 36) Try.func49 #[.slice Ao19 x6_2.length co19, .int .i64 (-1)] ?_; (with_reducible refine (slices_Index_int_int.calls k2 _ _ x6_2 (-1) t112 _ ?side1 ?side2 A16.out).mono ?_); (case side1 => exact cU (Kd.R_reads' HO_6.out).2.2); (case side2 => exact (Kd.R_reads' HO_6.out).2.1); rintro e w' ⟨rfl, ⟨nd, rfl⟩⟩; refine ⟨_, rfl, ?_⟩))
     go_loopg [10] k2 (fun kq v10 w' => ∃ (x6_3 : List Int) (x10_3 : Int), v10 = .int .i64 x10_3 ∧ Aside0 (ice_ByHalves.l2 kq t101 x6_3 x7_1 x27_2 x10_3 t101 (t101.length : Int) x27_2 = some (r1, r2)) ∧ Aside0 (kq ≤ k2) ∧ Aside0 (Kd.R (Kd.int .i64) 3 w' w.heap.size (fun k_ => some k_ ≠ ((.slice Ao19 x6_2.length co19) : Value).ownBlock) (.slice (some ad111) t101.length co11) t101) ∧ Aside0 (Kd.R (Kd.int .i64) 3 w' w.heap.size (fun k_ => some k_ ≠ ((.slice (some ad111) t101.length co11) : Value).ownBlock ∧ some k_ ≠ ((.slice (some ad111) t101.length co11) : Value).ownBlock) (.slice Ao19 x6_2.length co19) x6_3) ∧ Aside0 (Kd.R (Kd.int .i64) 3 w' w.heap.size (fun k_ => some k_ ≠ ((.slice Ao19 x6_2.length co19) : Value).ownBlock) (.slice (some ad111) t101.length co11) t101) ∧ Aside0 (Below w.heap.size w w'))
     case atStart => exact ⟨(x6_2), (t112), eS, H', ⟨Nat.le_refl _⟩, ⟨rU HO_4.out⟩, ⟨rU HO_6.out⟩, ⟨rU HO_25.out⟩, ⟨by repeat (first | (with_reducible first | exact HB.out | apply below_alloc | apply pw_below_drewN | apply below_drew1) | exact HB.out)⟩⟩
     case round =>
      clear H'
      try clear c1; try clear p1; try clear q1; try clear hx1; try clear p2; try clear c3; try clear c3b0; try clear c3b1; try clear c4; try clear c10; try clear c10b0; try clear p11; try clear q11; try clear hx11; try clear c12; try clear c12b0; try clear c13; try clear c13b0; try clear c14; try clear c14b0; try clear c15; try clear c15b0; try clear c15b1; try clear c16; try clear c17; try clear c17b0; try clear hx111_0; try clear p111; try clear p2; try clear q111
      obtain ⟨x6_3, x10_3, rfl, HA, HK3, HO_4, HO_6, HO_25, HB⟩ := hrel; have hl6_3 := (Kd.R_reads' HO_6.out).1; rw [hl6_3] at HO_6
      (try simp only [hl6_3])
      (try simp only [hl6_3] at HO_4)
      (try simp only [hl6_3] at HO_25)
      cases gk with
      | zero => exact absurd HA.out (by simp [ice_ByHalves.l2])
      | succ k3 =>
       have H := HA.out; clear HA; simp only [ice_ByHalves.l2] at H; by_cases c20 : x10_3 < (x6_3.length : Int); rotate_left
       ·rw [if_neg c20] at H
        have c20b0 : decide (x10_3 < (x6_3.length : Int)) = false := decide_eq_false c20
        (try (have c20b0h := c20b0; simp only [hl6_3] at c20b0h))
        clear c20; have H' := A_ H; clear H
        go_wp2
        (try simp only [← hl6_3])
        go_roundg k3
        case measure => have := HK1.out; have := HK2.out; have := HK3.out; omega
        case rel => exact ⟨(x6_3), (wrap64 (x27_2 + 1)), eS, H', ⟨by have := HK1.out; have := HK2.out; have := HK3.out; omega⟩, ⟨by (try simp only [hl6_3]); (with_reducible repeat (first | apply Kd.R_alloc | apply Kd.R_drewN | apply Kd.R_drew)); exact HO_4.out⟩, ⟨by (try simp only [hl6_3]); (with_reducible repeat (first | apply Kd.R_alloc | apply Kd.R_drewN | apply Kd.R_drew)); exact HO_6.out⟩, ⟨by (try simp only [hl6_3]); (with_reducible repeat (first | apply Kd.R_alloc | apply Kd.R_drewN | apply Kd.R_drew)); exact HO_25.out⟩, ⟨by repeat (first | (with_reducible first | exact HB.out | apply below_alloc | apply pw_below_drewN | apply below_drew1) | exact HB.out)⟩⟩
       rw [if_pos c20] at H; have c20b0 : decide (x10_3 < (x6_3.length : Int)) = true := decide_eq_true c20
       (try (have c20b0h := c20b0; simp only [hl6_3] at c20b0h))
       clear c20; by_cases c21 : 0 ≤ x10_3; rotate_left
       ·rw [if_neg c21] at H
        exact absurd H (by simp)
       rw [if_pos c21] at H; have c21b0 : decide (0 ≤ x10_3) = true := decide_eq_true c21; clear c21; by_cases c22 : (rd x6_3 x10_3) = (-1); rotate_left
       ·rw [if_neg c22] at H
        have c22b0 : ((rd x6_3 x10_3) == (-1)) = false := beq_eq_false_iff_ne.mpr c22; have c22b1 : ((rd x6_3 x10_3) != (-1)) = true := bne_iff_ne.mpr c22; simp only [Option.some.injEq, Prod.mk.injEq] at H; obtain ⟨rfl, rfl⟩ := H; have p113 : 0 ≤ (x10_3 : Int) := oD; have q113 : x10_3 < (x6_3.length : Int) := oD; obtain ⟨ad113, e113, hx113_0⟩ := Kd.at_int (Kd.R_reads' HO_6.out).2.2 x10_3 p113 q113
        cases e113
        replace p113 := eq_true p113; replace q113 := eq_true q113
        go_wp2
        go_ret2
        exact ⟨_, by first | rfl | (simp [errW_none, errW_some] <;> rfl) | (simp [*, errW_none, errW_some] <;> rfl), by first | exact Kd.R_nil _ _ _ _ _ | exact Kd.N_nil _ _ _ _ _ | exact Kd.V_nil _ _ _ _ _ | exact Kd.Q_nil _ _ _ _ _ | exact Kd.S_nil _ _ _ _ _, by repeat (first | (with_reducible first | exact HB.out | apply below_alloc | apply pw_below_drewN | apply below_drew1) | exact HB.out)⟩
       rw [if_pos c22] at H; have c22b0 : ((rd x6_3 x10_3) == (-1)) = true := beq_iff_eq.mpr c22; have c22b1 : ((rd x6_3 x10_3) != (-1)) = false := bne_eq_false_iff_eq.mpr c22; clear c22; obtain ⟨y114, hy114⟩ : ∃ y_ : List Int, y_ = (x6_3.set (x10_3 : Int).toNat x27_2) := ⟨_, rfl⟩
       replace H : (ice_ByHalves.l2 k3 t101 y114 x7_1 x27_2 (wrap64 (x10_3 + x7_1)) t101 (t101.length : Int) x27_2) = some (r1, r2) := by first | (rw [hy114]; with_reducible exact H) | (have H2_ := (Option.bind_some _ _).symm.trans H; rw [hy114]; with_reducible exact H2_) | (have H2_ := (Option.bind_some _ _).symm.trans H; with_reducible exact H2_) | with_reducible exact H | (rw [hy114]; exact H) | exact H
       have Ny114 := A_ hy114; clear hy114; have H' := A_ H; clear H; have p113 : 0 ≤ (x10_3 : Int) := oD; have q113 : x10_3 < (x6_3.length : Int) := oD; obtain ⟨ad113, e113, hx113_0⟩ := Kd.at_int (Kd.R_reads' HO_6.out).2.2 x10_3 p113 q113
       cases e113
       replace p113 := eq_true p113; replace q113 := eq_true q113; have p23 : 0 ≤ (x10_3 : Int) := oD; have q23 : (x10_3 : Int) < ((x6_3.length : Int) : Int) := oD
       obtain ⟨go23, co23, eo23, gb23, gl23, cl23, HG23⟩ := Kd.R_form HO_6.out (by omega)
       (first | cases eo23 | (injection eo23 with ea_ en_ ec_; (first | subst ea_ | (injection ea_ with ea_; subst ea_)); subst ec_; clear en_))
       have GB23 := A_ gb23; have GG23 := A_ HG23; clear gb23 gl23 HG23
       (first | simp only [add_plain] at hx113_0 | skip)
       obtain ⟨hx23_0, hf23_0⟩ := Kd.R_celln 0 HO_6.out (x10_3 : Int) p23 q23; replace p23 := eq_true p23; replace q23 := eq_true q23; have HP24 := Kd.R_putg HO_6.out (x10_3 : Int) x27_2
       go_wp2_with (first | ((with_reducible refine gate_store (t := 3) (p := 54) rfl ?_); refine store_event (t := 3) (p := 54) (v := ?vo_w25) (w1 := (wr.setCell ⟨go23, (x10_3 : Int).toNat, none⟩ (.int .i64 x27_2))) ?hg ?ho ?hn ?hr ?_; (case ho => rfl); (case hg => rfl); (case hn => rfl); (case hr => first | (go_simp; done) | (go_simp; rfl)); intro w25 hw; have hg : wr.grownBy w25 (some go23) := (by rw [hw]; exact HP24.2); have hp_ : Kd.R (Kd.int .i64) 3 w25 w.heap.size (fun k_ => some k_ ≠ (.slice (some ad111) t101.length co11 : Value).ownBlock ∧ some k_ ≠ (.slice (some ad111) t101.length co11 : Value).ownBlock) (.slice (some ⟨go23, 0, none⟩) x6_3.length co19) y114 := (by rw [hw, Ny114.out]; exact HP24.1); clear HP24; have n0_ := A_ (Kd.R_after (v := (.slice (some ⟨go23, 0, none⟩) x6_3.length co19)) (v1 := (.slice (some ⟨go23, 0, none⟩) x6_3.length co19)) (ok := (fun _ => True)) (by (with_reducible repeat (first | apply Kd.R_alloc | apply Kd.R_drewN | apply Kd.R_drew)); exact Kd.R_mono HO_4.out (fun _ hk => ⟨trivial, hk⟩)) hg (.inl rfl)); have n1_ := A_ (hp_); have n2_ := A_ (Kd.R_after (v := (.slice (some ⟨go23, 0, none⟩) x6_3.length co19)) (v1 := (.slice (some ⟨go23, 0, none⟩) x6_3.length co19)) (ok := (fun _ => True)) (by (with_reducible repeat (first | apply Kd.R_alloc | apply Kd.R_drewN | apply Kd.R_drew)); exact Kd.R_mono HO_25.out (fun _ hk => ⟨trivial, hk⟩)) hg (.inl rfl)); have n3_ := A_ ((by rw [hw]; exact below_set (HB.out) GB23.out : Below w.heap.size w w25)); clear HO_4; clear HO_6; clear HO_25; clear HB; have HO_4 := n0_; have HO_6 := n1_; have HO_25 := n2_; have HB := n3_; clear n0_ n1_ n2_ n3_; clear hg hw hp_))
       (try simp only [← hl6_3])
       go_roundg k3
       case measure => have := HK1.out; have := HK2.out; have := HK3.out; omega
       case rel => exact ⟨(y114), (wrap64 (x10_3 + x7_1)), eS, H', ⟨by have := HK1.out; have := HK2.out; have := HK3.out; omega⟩, ⟨by (try simp only [hl6_3]); (with_reducible repeat (first | apply Kd.R_alloc | apply Kd.R_drewN | apply Kd.R_drew)); exact Kd.R_mono HO_4.out (fun _ hk => hk.2)⟩, ⟨by (try simp only [hl6_3]); (with_reducible repeat (first | apply Kd.R_alloc | apply Kd.R_drewN | apply Kd.R_drew)); exact HO_6.out⟩, ⟨by (try simp only [hl6_3]); (with_reducible repeat (first | apply Kd.R_alloc | apply Kd.R_drewN | apply Kd.R_drew)); exact Kd.R_mono HO_25.out (fun _ hk => hk.2)⟩, ⟨by repeat (first | (with_reducible first | exact HB.out | apply below_alloc | apply pw_below_drewN | apply below_drew1) | exact HB.out)⟩⟩
mutual
def ice_Density.l0 : Nat → Int → List Int → Int → Int → Option (Int × Int × Int)
 | 0, _, _, _, _ => none
 | k + 1, x4, x13, x14, x15 => if x15 < x14 then (if 0 ≤ x15 then (if x15 < (x13.length : Int) then (if (rd x13 x15) = 0 then (none) else (ice_Density.l0 k (wrap64 (x4 + (wrap64 (Int.tdiv (840 : Int) (rd x13 x15))))) x13 x14 (wrap64 (x15 + 1)))) else (none)) else (none)) else (ice_Density.l1 k x4 x4 840)
def ice_Density.l1 : Nat → Int → Int → Int → Option (Int × Int × Int)
 | 0, _, _, _ => none
 | k + 1, x4, x7, x8 => if x8 = 0 then (if x7 = 0 then (none) else (some (wrap64 (Int.tdiv x4 x7), wrap64 (Int.tdiv (840 : Int) x7), 0))) else (ice_Density.l1 k x4 x8 (Int.tmod x7 x8))
end
def ice_Density.f (k : Nat) (l0 : List Int) : Option (Int × Int × Int) := (ice_Valid.f k l0).bind fun t102 => (if t102 = true then (ice_Density.l0 k 0 l0 (l0.length : Int) 0) else (some (0, 0, 80)))
theorem ice_Density.mono_l : ∀ k, (∀ y0 y1 y2 y3, LeO (ice_Density.l0 k y0 y1 y2 y3) (ice_Density.l0 (k + 1) y0 y1 y2 y3)) ∧ (∀ y0 y1 y2, LeO (ice_Density.l1 k y0 y1 y2) (ice_Density.l1 (k + 1) y0 y1 y2))
 | 0 => ⟨fun _ _ _ _ r h => by simp [ice_Density.l0] at h, fun _ _ _ r h => by simp [ice_Density.l1] at h⟩
 | k + 1 => by
  obtain ⟨ih0, ih1⟩ := ice_Density.mono_l k
  refine ⟨?_, ?_⟩
  ·intro y0 y1 y2 y3
   unfold ice_Density.l0
   repeat' first
   | (with_reducible exact ih0 _ _ _ _)
   | (with_reducible exact ih1 _ _ _)
   | (with_reducible exact ice_Valid.mono _ _)
   | (with_reducible exact LeO.refl _)
   | (with_reducible exact LeO.none _)
   | (with_reducible refine LeO.ite ?_ ?_)
   | (with_reducible refine LeO.bind ?_ (fun _ => ?_))
   | exact ih0 _ _ _ _
   | exact ih1 _ _ _
   | exact ice_Valid.mono _ _
   | exact LeO.none _
   | refine LeO.ite ?_ ?_
   | refine LeO.bind ?_ (fun _ => ?_)
  ·intro y0 y1 y2
   unfold ice_Density.l1
   repeat' first
   | (with_reducible exact ih0 _ _ _ _)
   | (with_reducible exact ih1 _ _ _)
   | (with_reducible exact ice_Valid.mono _ _)
   | (with_reducible exact LeO.refl _)
   | (with_reducible exact LeO.none _)
   | (with_reducible refine LeO.ite ?_ ?_)
   | (with_reducible refine LeO.bind ?_ (fun _ => ?_))
   | exact ih0 _ _ _ _
   | exact ih1 _ _ _
   | exact ice_Valid.mono _ _
   | exact LeO.none _
   | refine LeO.ite ?_ ?_
   | refine LeO.bind ?_ (fun _ => ?_)
theorem ice_Density.mono : ∀ a0 k, LeO (ice_Density.f k a0) (ice_Density.f (k + 1) a0) := by
 intro a0 k
 obtain ⟨ih0, ih1⟩ := ice_Density.mono_l k
 unfold ice_Density.f
 repeat' first
   | (with_reducible exact ih0 _ _ _ _)
   | (with_reducible exact ih1 _ _ _)
   | (with_reducible exact ice_Valid.mono _ _)
   | (with_reducible exact LeO.refl _)
   | (with_reducible exact LeO.none _)
   | (with_reducible refine LeO.ite ?_ ?_)
   | (with_reducible refine LeO.bind ?_ (fun _ => ?_))
   | exact ih0 _ _ _ _
   | exact ih1 _ _ _
   | exact ice_Valid.mono _ _
   | exact LeO.none _
   | refine LeO.ite ?_ ?_
   | refine LeO.bind ?_ (fun _ => ?_)
def ice_Density.T12 : Bool × List (List Nat × List Nat) := (true, [([], []), ([], []), ([0, 1], [0, 1]), ([], []), ([3], [3]), ([2, 4], [2, 4]), ([5, 0, 1, 2, 3, 4, 5], [5]), ([6, 0, 1, 2, 3, 4, 5, 6], [])])
def ice_Density.B12 : List Nat := [0, 0, 3, 0, 8, 31, 63, 127]
theorem ice_Density.tab12 : rtab .any (opsOf Try.f25 12) = ice_Density.T12 := by kernel_rfl
theorem ice_Density.bits12 : waitsOk ice_Density.T12.2 ice_Density.B12 = true := by kernel_rfl
set_option maxHeartbeats 8000000 in
set_option maxRecDepth 100000 in
theorem ice_Density.calls (k : Nat) (A0 : Option Addr) (c0 : Nat) (l0 : List Int) (r1 : Int) (r2 : Int) (r3 : Int) (w : World) (hr0 : Kd.C (Kd.int .i64) w A0 l0.length l0) (hc0 : l0.length ≤ c0) (h : ice_Density.f k l0 = some (r1, r2, r3)) :
  Calls Try.prog 25 #[.slice A0 l0.length c0] w fun e w' => e = .returned (.tuple #[.agg #[.int .i64 r1, .int .i64 r2], .int .i64 r3]) ∧ Below w.heap.size w w' := by
 have hu35 := Try.underlying35; have HR0 := A_ hr0; have HC0 := A_ hc0; clear hr0 hc0; have HB := A_ (Below.refl w.heap.size w)
 have H : ((ice_Valid.f k l0).bind fun t102 => (if t102 = true then (ice_Density.l0 k 0 l0 (l0.length : Int) 0) else (some (0, 0, 80)))) = some (r1, r2, r3) := h
 clear h; replace H := Option.bind_eq_some_iff.mp H; obtain ⟨t102, A20, H⟩ := H; (try dsimp only at H); have A2 := A_ A20; clear A20; by_cases c3 : t102 = true; rotate_left
 ·replace c3 := Bool.eq_false_iff.mpr c3
  subst c3; rw [if_neg (show ¬ (false = true) by decide)] at H; simp only [Option.some.injEq, Prod.mk.injEq] at H; obtain ⟨rfl, rfl, rfl⟩ := H
  go_enter Try.func25, Try.ntmps25
  go_wp2_with (first | ((with_reducible refine gate_dst (N := 2) rfl ?_); refine bxW 2 (cs := #[.int .i64 0, .int .i64 0]) (t := 35) ?_; intro gb101 hg w16 hbox hb; have n0_ := A_ (below_step (bW0 HB.out) hb); have n1_ := A_ (hbox); have n2_ := A_ ((szG hg (bW0 HB.out))); have n3_ := A_ ((szG hg (bW0 HB.out))); clear HB; have HB := n0_; have BK101 := n1_; have GW101 := n2_; have GE101 := n3_; clear n0_ n1_ n2_ n3_; clear hb hbox hg) | ((with_reducible refine gate_callee (f := 29) rfl ?_); refine goesW_ (some 10) Try.func29 #[.slice A0 l0.length c0] ?_; (with_reducible refine (ice_Valid.calls k _ _ l0 false _ ?side1 ?side2 A2.out).mono ?_); (case side1 => exact cU (Kd.C_below HR0.out HB.out)); (case side2 => exact HC0.out); rintro e w17 ⟨rfl, hb⟩; refine ⟨_, rfl, ?_⟩; have n0_ := A_ (bkB BK101 hb); have n1_ := A_ (below_step (bW1 HB.out GE101.out) hb); clear BK101; clear HB; have BK101 := n0_; have HB := n1_; clear n0_ n1_; (try clear hb); have hcz18_0 : w17.cell? ⟨gb101, 0, none⟩ = some (.int .i64 0) := (blk_cell BK101.out 0).trans rfl; have hcz18_1 : w17.cell? ⟨gb101, 1, none⟩ = some (.int .i64 0) := (blk_cell BK101.out 1).trans rfl; have hfz18_0 := blk_frozen BK101.out 0; have hfz18_1 := blk_frozen BK101.out 1))
  refine bodyPost_ret (results_ct rfl _ _ gb101 35 #[.int .i64 0, .int .i64 0] (0, 0) _ rfl (by (with_reducible repeat (first | refine blk_drewN ?_ _ | refine blk_drew ?_ | refine blk_alloc ?_ _)); refine blk_put (cs := #[.int .i64 0, .int .i64 0]) ?_ 1 _ rfl; (with_reducible repeat (first | refine blk_drewN ?_ _ | refine blk_drew ?_ | refine blk_alloc ?_ _)); refine blk_put (cs := #[.int .i64 0, .int .i64 0]) ?_ 0 _ rfl; exact bkU BK101) Try.underlying35 rfl (by kernel_rfl)) rfl ?_
  exact ⟨eQ, by repeat (first | (with_reducible first | exact HB.out | apply below_alloc | apply pw_below_drewN | apply below_drew1 | refine below_set ?_ GE101.out) | exact HB.out)⟩
 subst c3; rw [if_pos rfl] at H; have H' := A_ H; clear H
 go_enter Try.func25, Try.ntmps25
 go_wp2_with (first | ((with_reducible refine gate_dst (N := 2) rfl ?_); refine bxW 2 (cs := #[.int .i64 0, .int .i64 0]) (t := 35) ?_; intro gb101 hg w4 hbox hb; have n0_ := A_ (below_step (bW0 HB.out) hb); have n1_ := A_ (hbox); have n2_ := A_ ((szG hg (bW0 HB.out))); have n3_ := A_ ((szG hg (bW0 HB.out))); clear HB; have HB := n0_; have BK101 := n1_; have GW101 := n2_; have GE101 := n3_; clear n0_ n1_ n2_ n3_; clear hb hbox hg) | ((with_reducible refine gate_callee (f := 29) rfl ?_); refine goesW_ (some 10) Try.func29 #[.slice A0 l0.length c0] ?_; (with_reducible refine (ice_Valid.calls k _ _ l0 true _ ?side1 ?side2 A2.out).mono ?_); (case side1 => exact cU (Kd.C_below HR0.out HB.out)); (case side2 => exact HC0.out); rintro e w5 ⟨rfl, hb⟩; refine ⟨_, rfl, ?_⟩; have n0_ := A_ (bkB BK101 hb); have n1_ := A_ (below_step (bW1 HB.out GE101.out) hb); clear BK101; clear HB; have BK101 := n0_; have HB := n1_; clear n0_ n1_; (try clear hb)))
 go_loopg [4, 15] k (fun kq v4 v15 w' => ∃ (x4_1 : Int) (x15_1 : Int), v4 = .int .i64 x4_1 ∧ v15 = .int .i64 x15_1 ∧ Aside0 (ice_Density.l0 kq x4_1 l0 (l0.length : Int) x15_1 = some (r1, r2, r3)) ∧ Aside0 (kq ≤ k) ∧ Aside0 (w'.heap[gb101]? = some (.cells #[.int .i64 0, .int .i64 0] 35 (0, 0))) ∧ Aside0 (Below w.heap.size w w'))
 case atStart => exact ⟨(0), (0), eS, eS, H', ⟨Nat.le_refl _⟩, ⟨bkU BK101⟩, ⟨by repeat (first | (with_reducible first | exact HB.out | apply below_alloc | apply pw_below_drewN | apply below_drew1 | refine below_set ?_ GE101.out) | exact HB.out)⟩⟩
 case round =>
  clear H'
  try clear c2; try clear p2; try clear c3
  obtain ⟨x4_1, x15_1, rfl, rfl, HA, HK1, BK101, HB⟩ := hrel
  cases gk with
  | zero => exact absurd HA.out (by simp [ice_Density.l0])
  | succ k1 =>
   have H := HA.out; clear HA; simp only [ice_Density.l0] at H; by_cases c6 : x15_1 < (l0.length : Int)
   ·rw [if_pos c6] at H
    have c6b0 : decide (x15_1 < (l0.length : Int)) = true := decide_eq_true c6; clear c6; by_cases c7 : 0 ≤ x15_1; rotate_left
    ·rw [if_neg c7] at H
     exact absurd H (by simp)
    rw [if_pos c7] at H; have c7b0 : decide (0 ≤ x15_1) = true := decide_eq_true c7; clear c7; by_cases c8 : x15_1 < (l0.length : Int); rotate_left
    ·rw [if_neg c8] at H
     exact absurd H (by simp)
    rw [if_pos c8] at H; have c8b0 : decide (x15_1 < (l0.length : Int)) = true := decide_eq_true c8; clear c8; by_cases c9 : (rd l0 x15_1) = 0
    ·rw [if_pos c9] at H
     exact absurd H (by simp)
    rw [if_neg c9] at H; have c9b0 : ((rd l0 x15_1) == 0) = false := beq_eq_false_iff_ne.mpr c9; have c9b1 : ((rd l0 x15_1) != 0) = true := bne_iff_ne.mpr c9; have H' := A_ H; clear H; have p103 : 0 ≤ (x15_1 : Int) := oD; have q103 : x15_1 < (l0.length : Int) := oD; obtain ⟨ad103, e103, hx103_0⟩ := Kd.at_int HR0.out x15_1 p103 q103
    cases e103
    replace hx103_0 := (HB.out.cell (World.block_lt_of_cell? w _ hx103_0)).trans hx103_0; replace p103 := eq_true p103; replace q103 := eq_true q103
    go_wp2
    go_roundg k1
    case measure => have := HK1.out; omega
    case rel => exact ⟨(wrap64 (x4_1 + (wrap64 (Int.tdiv (840 : Int) (rd l0 x15_1))))), (wrap64 (x15_1 + 1)), eS, eS, H', ⟨by have := HK1.out; omega⟩, ⟨bkU BK101⟩, ⟨by repeat (first | (with_reducible first | exact HB.out | apply below_alloc | apply pw_below_drewN | apply below_drew1 | refine below_set ?_ GE101.out) | exact HB.out)⟩⟩
   rw [if_neg c6] at H; have c6b0 : decide (x15_1 < (l0.length : Int)) = false := decide_eq_false c6; clear c6; have H' := A_ H; clear H
   go_wp2
   go_loopg [7, 8] k1 (fun kq v7 v8 w' => ∃ (x7_2 : Int) (x8_2 : Int), v7 = .int .i64 x7_2 ∧ v8 = .int .i64 x8_2 ∧ Aside0 (ice_Density.l1 kq x4_1 x7_2 x8_2 = some (r1, r2, r3)) ∧ Aside0 (kq ≤ k1) ∧ Aside0 (w'.heap[gb101]? = some (.cells #[.int .i64 0, .int .i64 0] 35 (0, 0))) ∧ Aside0 (Below w.heap.size w w'))
   case atStart => exact ⟨(x4_1), (840), eS, eS, H', ⟨Nat.le_refl _⟩, ⟨bkU BK101⟩, ⟨by repeat (first | (with_reducible first | exact HB.out | apply below_alloc | apply pw_below_drewN | apply below_drew1 | refine below_set ?_ GE101.out) | exact HB.out)⟩⟩
   case round =>
    clear H'
    try clear p1; try clear q1; try clear hx1; try clear c2; try clear p2; try clear c3; try clear c6; try clear c6b0; try clear p6; try clear c7; try clear c7b0; try clear c8; try clear c8b0; try clear c9; try clear c9b0; try clear c9b1; try clear hx103_0; try clear p103; try clear p2; try clear q103
    obtain ⟨x7_2, x8_2, rfl, rfl, HA, HK2, BK101, HB⟩ := hrel
    cases gk with
    | zero => exact absurd HA.out (by simp [ice_Density.l1])
    | succ k2 =>
     have H := HA.out; clear HA; simp only [ice_Density.l1] at H; by_cases c10 : x8_2 = 0
     ·rw [if_pos c10] at H
      have c10b0 : (x8_2 == 0) = true := beq_iff_eq.mpr c10; have c10b1 : (x8_2 != 0) = false := bne_eq_false_iff_eq.mpr c10; clear c10; by_cases c11 : x7_2 = 0
      ·rw [if_pos c11] at H
       exact absurd H (by simp)
      rw [if_neg c11] at H; have c11b0 : (x7_2 == 0) = false := beq_eq_false_iff_ne.mpr c11; have c11b1 : (x7_2 != 0) = true := bne_iff_ne.mpr c11; simp only [Option.some.injEq, Prod.mk.injEq] at H; obtain ⟨rfl, rfl, rfl⟩ := H
      try go_wp2
      have n0_ := A_ (blk_drew BK101.out); have n1_ := A_ (below_drew1 HB.out); clear BK101 HB; have BK101 := n0_; have HB := n1_; clear n0_ n1_
      refine start_ (n := 8) (S := fun w' => True) (ds := []) (mkB 8 0) (by kernel_rfl) rfl rfl trivial (fun hHeld => ?_); refine with_tabW ice_Density.tab12 ice_Density.bits12 (fun HT_ HW_ => ?_)
      generalize wr.drew = w12 at BK101 HB hHeld ⊢; refine pr_ 0 (some 31) (mkB 8 1) HT_ ?_; refine pr_ 1 (some 32) (mkB 8 3) HT_ ?_; refine pr_ 2 (some 33) (mkB 8 7) HT_ ?_; refine pr_ 3 (some 34) (mkB 8 15) HT_ ?_; refine pr_ 4 (some 35) (mkB 8 31) HT_ ?_; refine pr_ 5 (some 36) (mkB 8 63) HT_ ?_
      refine one_ (i := 6) (N := none) (mkB 8 127) rfl rfl (one_of HT_.out (by kernel_rfl)) (by decide) (fun K hK => ?_)
      have hs13 : w12.cell? ⟨gb101, 0, none⟩ = some (.int .i64 0) := (blk_cell BK101.out 0).trans rfl; have hfs13 := blk_frozen BK101.out 0; have hs14 : w12.cell? ⟨gb101, 1, none⟩ = some (.int .i64 0) := (blk_cell BK101.out 1).trans rfl; have hfs14 := blk_frozen BK101.out 1
      refine skip_ (w1 := ?_) (by rfl) rfl ?_ ?_
      rotate_left
      ·go_simp
       rfl
      refine hK.out _ _ trivial (fun hHeld => ?_)
      clear hK K; refine pr_ 7 (some 3) (mkB 8 255) HT_ ?_
      refine done_ (done_of HT_.out (by kernel_rfl)) ?_
      try go_wp2
      refine bodyPost_ret (results_ct rfl _ _ gb101 35 #[.int .i64 (wrap64 (Int.tdiv x4_1 x7_2)), .int .i64 (wrap64 (Int.tdiv (840 : Int) x7_2))] (0, 0) _ rfl (by (with_reducible repeat (first | refine blk_drewN ?_ _ | refine blk_drew ?_ | refine blk_alloc ?_ _)); refine blk_put (cs := #[.int .i64 (wrap64 (Int.tdiv x4_1 x7_2)), .int .i64 0]) ?_ 1 _ rfl; (with_reducible repeat (first | refine blk_drewN ?_ _ | refine blk_drew ?_ | refine blk_alloc ?_ _)); refine blk_put (cs := #[.int .i64 0, .int .i64 0]) ?_ 0 _ rfl; exact bkU BK101) Try.underlying35 rfl (by kernel_rfl)) rfl ?_
      exact ⟨eQ, by repeat (first | (with_reducible first | exact HB.out | apply below_alloc | apply pw_below_drewN | apply below_drew1 | refine below_set ?_ GE101.out) | exact HB.out)⟩
     rw [if_neg c10] at H; have c10b0 : (x8_2 == 0) = false := beq_eq_false_iff_ne.mpr c10; have c10b1 : (x8_2 != 0) = true := bne_iff_ne.mpr c10; have H' := A_ H; clear H
     try go_wp2
     have n0_ := A_ (blk_drew BK101.out); have n1_ := A_ (below_drew1 HB.out); clear BK101 HB; have BK101 := n0_; have HB := n1_; clear n0_ n1_
     refine start_ (n := 6) (S := fun w' => True) (ds := []) (mkB 6 0) (by kernel_rfl) rfl rfl trivial (fun hHeld => ?_)
     generalize wr.drew = w15 at BK101 HB hHeld ⊢
     refine pure_ (i := 0) (N := some 27) (v := ?_) (a' := ?_) (mkB 6 1) rfl rfl (by kernel_rfl) (fun _ _ _ h => h) (Or.inl ⟨by rfl, ?_⟩) ?_ ?_
     rotate_left
     ·intro w'
      go_simp
      with_reducible rfl
     rotate_left
     ·simp only [Act.put, List.setIfInBounds_toArray, List.set_cons_zero, List.set_cons_succ, i64_w, i32_w]
      rfl
     refine pure_ (i := 1) (N := some 28) (v := ?_) (a' := ?_) (mkB 6 3) rfl rfl (by kernel_rfl) (fun _ _ _ h => h) (Or.inl ⟨by rfl, ?_⟩) ?_ ?_
     rotate_left
     ·intro w'
      go_simp
      with_reducible rfl
     rotate_left
     ·simp only [Act.put, List.setIfInBounds_toArray, List.set_cons_zero, List.set_cons_succ, i64_w, i32_w]
      rfl
     refine pure_ (i := 2) (N := some 29) (v := ?_) (a' := ?_) (mkB 6 7) rfl rfl (by kernel_rfl) (fun _ _ _ h => h) (Or.inl ⟨by rfl, ?_⟩) ?_ ?_
     rotate_left
     ·intro w'
      go_simp
      with_reducible rfl
     rotate_left
     ·simp only [Act.put, List.setIfInBounds_toArray, List.set_cons_zero, List.set_cons_succ, i64_w, i32_w]
      rfl
     refine pure_ (i := 3) (N := some 30) (v := ?_) (a' := ?_) (mkB 6 15) rfl rfl (by kernel_rfl) (fun _ _ _ h => h) (Or.inl ⟨by rfl, ?_⟩) ?_ ?_
     rotate_left
     ·intro w'
      go_simp
      with_reducible rfl
     rotate_left
     ·simp only [Act.put, List.setIfInBounds_toArray, List.set_cons_zero, List.set_cons_succ, i64_w, i32_w]
      rfl
     refine pure_ (i := 4) (N := some 7) (v := ?_) (a' := ?_) (mkB 6 31) rfl rfl (by kernel_rfl) (fun _ _ _ h => h) (Or.inl ⟨by rfl, ?_⟩) ?_ ?_
     rotate_left
     ·intro w'
      go_simp
      with_reducible rfl
     rotate_left
     ·simp only [Act.put, List.setIfInBounds_toArray, List.set_cons_zero, List.set_cons_succ, i64_w, i32_w]
      rfl
     refine pure_ (i := 5) (N := some 8) (v := ?_) (a' := ?_) (mkB 6 63) rfl rfl (by kernel_rfl) (fun _ _ _ h => h) (Or.inl ⟨by rfl, ?_⟩) ?_ ?_
     rotate_left
     ·intro w'
      go_simp
      with_reducible rfl
     rotate_left
     ·simp only [Act.put, List.setIfInBounds_toArray, List.set_cons_zero, List.set_cons_succ, i64_w, i32_w]
      rfl
     refine done_ (by kernel_rfl) ?_
     try go_wp2
     go_roundg k2
     case measure => have := HK1.out; have := HK2.out; omega
     case rel => exact ⟨(x8_2), (Int.tmod x7_2 x8_2), eS, eS, H', ⟨by have := HK1.out; have := HK2.out; omega⟩, ⟨bkU BK101⟩, ⟨by repeat (first | (with_reducible first | exact HB.out | apply below_alloc | apply pw_below_drewN | apply below_drew1 | refine below_set ?_ GE101.out) | exact HB.out)⟩⟩
end Go.Proofs.Ythbpibdfookbmaa.G
end
