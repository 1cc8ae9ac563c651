/- Functions of the seat and plain laws about them: GF3. -/
import Derived.Test.YtklapbgajghhcaaZW14
import Derived.Test.YtklapbgajghhcaaGBase
import Derived.Test.YtklapbgajghhcaaZW0
import Derived.Test.YtklapbgajghhcaaZW2
import Derived.Test.YtklapbgajghhcaaZW13
import Derived.Test.YtklapbgajghhcaaZW6
import Derived.Test.YtklapbgajghhcaaZW7
import Derived.Test.YtklapbgajghhcaaZW8
import Derived.Test.YtklapbgajghhcaaZW9
import Derived.Test.YtklapbgajghhcaaZW10
import Derived.Test.YtklapbgajghhcaaZW11
import Derived.Test.YtklapbgajghhcaaZW12
section
namespace Go.Proofs.Ytklapbgajghhcaa.G
open Go.RowKit Go.Proofs.YtklapbgajghhcaaW.PrintWords Go.Proofs.YtklapbgajghhcaaW.PrintLast Go.Proofs.YtklapbgajghhcaaW.PrintMore
attribute [local go_sem] max2_int min2_int max_two min_two max_three min_three max_four min_four
set_option linter.unusedVariables false
set_option linter.unusedSimpArgs false
attribute [local go_sem high] eqA35
theorem droppertop_TopWear.j1_no (k : Nat) (y0_ : List Int) (y1_ : List (S35)) (y5_ : List (S35)) (y7_ : List Int) : droppertop_TopWear.j1 k y0_ y1_ y5_ y7_ true ≠ some true := by
  cases k with
  | zero => simp [droppertop_TopWear.j1]
  | succ k => rw [droppertop_TopWear.j1]; simp
theorem droppertop_TopWear.j2_no (k : Nat) (y0_ : List Int) (y1_ : List (S35)) (y5_ : List (S35)) (y7_ : List Int) : droppertop_TopWear.j2 k y0_ y1_ y5_ y7_ true ≠ some true := by
  cases k with
  | zero => simp [droppertop_TopWear.j2]
  | succ k => rw [droppertop_TopWear.j2]; simp
theorem droppertop_TopWear.j6_no (k : Nat) (y0_ : List Int) (y1_ : List (S35)) (y5_ : List (S35)) (y7_ : List Int) (y14_ : Int) (y15_ : Int) (y16_ : Int) : droppertop_TopWear.j6 k y0_ y1_ y5_ y7_ y14_ y15_ y16_ true ≠ some true := by
  cases k with
  | zero => simp [droppertop_TopWear.j6]
  | succ k => rw [droppertop_TopWear.j6]; simp
theorem droppertop_TopWear.j8_no (k : Nat) (y0_ : List Int) (y1_ : List (S35)) (y5_ : List (S35)) (y7_ : List Int) (y20_ : Int) : droppertop_TopWear.j8 k y0_ y1_ y5_ y7_ y20_ true ≠ some true := by
  cases k with
  | zero => simp [droppertop_TopWear.j8]
  | succ k => rw [droppertop_TopWear.j8]; simp
set_option maxHeartbeats 40000000 in
set_option maxRecDepth 100000 in
theorem droppertop_TopWear.calls (k : Nat) (A0 : Option Addr) (c0 : Nat) (l0 : List Int) (A1 : Option Addr) (c1 : Nat) (l1 : List (S35)) (r : Bool) (w : World) (hr0 : Kd.C (Kd.int .i64) w A0 l0.length l0) (hc0 : l0.length ≤ c0) (hr1 : Kd.C k35 w A1 l1.length l1) (hc1 : l1.length ≤ c1) (h : droppertop_TopWear.f k l0 l1 = some r) (hT : r = true) :
    Calls Try.prog 3 #[.slice A0 l0.length c0, .slice A1 l1.length c1] w fun e w' => e = .returned (.bool r) ∧ Below w.heap.size w w' := by
  have hu35 := Try.underlying35; have HR0 := Aside0.mk hr0; have HC0 := Aside0.mk hc0; clear hr0 hc0; have HR1 := Aside0.mk hr1; have HC1 := Aside0.mk hc1; clear hr1 hc1; have HB := Aside0.mk (Below.refl w.heap.size w)
  have H : ((dropperref07_Valid.f k l0).bind fun t601 => (if t601 = true then (droppertop_TopWear.j0 k l0 l1 (decide ((l1.length : Int) > 60))) else (droppertop_TopWear.j0 k l0 l1 true))) = some r := h
  clear h; have HC3 := Aside0.mk H; clear H
  go_enter Try.func3, Try.ntmps3
  go_upto_region 1 with (fail)
  repeat (go_quiet (fail); go_upto_region 1 with (fail))
  go_cut [32] (fun v32 wc => ∃ (kq : Nat) (x32_2 : Bool), v32 = .bool x32_2 ∧ Aside0 (droppertop_TopWear.j0 kq l0 l1 x32_2 = some r) ∧ Aside0 (kq ≤ k) ∧ Aside0 (Below w.heap.size w wc))
  case first => as_aux_lemma =>
    have H := HC3.out; clear HC3; replace H := Option.bind_eq_some_iff.mp H; obtain ⟨t601, A40, H⟩ := H; (try dsimp only at H); have A4 := Aside0.mk A40; clear A40; by_cases c5 : t601 = true
    · subst c5; rw [if_pos rfl] at H; have H' := Aside0.mk H; clear H
      go_wp2_with (first | (go_at_call 4; (with_reducible refine (dropperref07_Valid.calls k _ _ l0 true _ ?side1 ?side2 A4.out).mono ?_); (case side1 => repeat (first | exact (Kd.C_below HR0.out HB.out) | (with_reducible refine Kd.C_alloc ?_ _) | (with_reducible refine Kd.C_drewN ?_ _) | (with_reducible refine Kd.C_drew ?_))); (case side2 => exact HC0.out); rintro e w' ⟨rfl, ⟨nd, rfl⟩⟩; (try first | exact ⟨rfl, _, World.drewN_drewN _ _ _⟩ | exact ⟨rfl, _, Eq.trans (World.drewN_drewN _ _ _) (congrArg (World.drewN _) (Nat.add_assoc _ _ _))⟩)))
      repeat (go_quiet (first | (go_at_call 4; (with_reducible refine (dropperref07_Valid.calls k _ _ l0 true _ ?side1 ?side2 A4.out).mono ?_); (case side1 => repeat (first | exact (Kd.C_below HR0.out HB.out) | (with_reducible refine Kd.C_alloc ?_ _) | (with_reducible refine Kd.C_drewN ?_ _) | (with_reducible refine Kd.C_drew ?_))); (case side2 => exact HC0.out); rintro e w' ⟨rfl, ⟨nd, rfl⟩⟩; (try first | exact ⟨rfl, _, World.drewN_drewN _ _ _⟩ | exact ⟨rfl, _, Eq.trans (World.drewN_drewN _ _ _) (congrArg (World.drewN _) (Nat.add_assoc _ _ _))⟩))); try go_wp2_with (first | (go_at_call 4; (with_reducible refine (dropperref07_Valid.calls k _ _ l0 true _ ?side1 ?side2 A4.out).mono ?_); (case side1 => repeat (first | exact (Kd.C_below HR0.out HB.out) | (with_reducible refine Kd.C_alloc ?_ _) | (with_reducible refine Kd.C_drewN ?_ _) | (with_reducible refine Kd.C_drew ?_))); (case side2 => exact HC0.out); rintro e w' ⟨rfl, ⟨nd, rfl⟩⟩; (try first | exact ⟨rfl, _, World.drewN_drewN _ _ _⟩ | exact ⟨rfl, _, Eq.trans (World.drewN_drewN _ _ _) (congrArg (World.drewN _) (Nat.add_assoc _ _ _))⟩))))
      go_meet
      case rel => exact ⟨_, (decide ((l1.length : Int) > 60)), (by first | rfl | (simp; done) | (simp [*]; done)), H', ⟨by first | omega | exact Nat.le_refl _⟩, ⟨by repeat (first | (with_reducible first | exact HB.out | apply below_alloc | apply pw_below_drewN | apply below_drew1) | exact HB.out)⟩⟩
    replace c5 := Bool.eq_false_iff.mpr c5; subst c5; rw [if_neg (show ¬ (false = true) by decide)] at H; have H' := Aside0.mk H; clear H
    go_wp2_with (first | (go_at_call 4; (with_reducible refine (dropperref07_Valid.calls k _ _ l0 false _ ?side1 ?side2 A4.out).mono ?_); (case side1 => repeat (first | exact (Kd.C_below HR0.out HB.out) | (with_reducible refine Kd.C_alloc ?_ _) | (with_reducible refine Kd.C_drewN ?_ _) | (with_reducible refine Kd.C_drew ?_))); (case side2 => exact HC0.out); rintro e w' ⟨rfl, ⟨nd, rfl⟩⟩; (try first | exact ⟨rfl, _, World.drewN_drewN _ _ _⟩ | exact ⟨rfl, _, Eq.trans (World.drewN_drewN _ _ _) (congrArg (World.drewN _) (Nat.add_assoc _ _ _))⟩)))
    repeat (go_quiet (first | (go_at_call 4; (with_reducible refine (dropperref07_Valid.calls k _ _ l0 false _ ?side1 ?side2 A4.out).mono ?_); (case side1 => repeat (first | exact (Kd.C_below HR0.out HB.out) | (with_reducible refine Kd.C_alloc ?_ _) | (with_reducible refine Kd.C_drewN ?_ _) | (with_reducible refine Kd.C_drew ?_))); (case side2 => exact HC0.out); rintro e w' ⟨rfl, ⟨nd, rfl⟩⟩; (try first | exact ⟨rfl, _, World.drewN_drewN _ _ _⟩ | exact ⟨rfl, _, Eq.trans (World.drewN_drewN _ _ _) (congrArg (World.drewN _) (Nat.add_assoc _ _ _))⟩))); try go_wp2_with (first | (go_at_call 4; (with_reducible refine (dropperref07_Valid.calls k _ _ l0 false _ ?side1 ?side2 A4.out).mono ?_); (case side1 => repeat (first | exact (Kd.C_below HR0.out HB.out) | (with_reducible refine Kd.C_alloc ?_ _) | (with_reducible refine Kd.C_drewN ?_ _) | (with_reducible refine Kd.C_drew ?_))); (case side2 => exact HC0.out); rintro e w' ⟨rfl, ⟨nd, rfl⟩⟩; (try first | exact ⟨rfl, _, World.drewN_drewN _ _ _⟩ | exact ⟨rfl, _, Eq.trans (World.drewN_drewN _ _ _) (congrArg (World.drewN _) (Nat.add_assoc _ _ _))⟩))))
    go_meet
    case rel => exact ⟨_, (true), (by first | rfl | (simp; done) | (simp [*]; done)), H', ⟨by first | omega | exact Nat.le_refl _⟩, ⟨by repeat (first | (with_reducible first | exact HB.out | apply below_alloc | apply pw_below_drewN | apply below_drew1) | exact HB.out)⟩⟩
  case rest => as_aux_lemma =>
    clear HC3
    try clear c1
    try clear p2
    try clear c3
    try clear c5
    obtain ⟨kq, x32_2, rfl, HA, HJ2, HB⟩ := hcut
    cases kq with
    | zero => exact absurd HA.out (by simp [droppertop_TopWear.j0])
    | succ kj2 =>
      have H := HA.out; clear HA; simp only [droppertop_TopWear.j0] at H; by_cases c6 : x32_2 = true
      · subst c6; rw [if_pos rfl] at H; replace H := Option.bind_eq_some_iff.mp H; obtain ⟨t602, A70, H⟩ := H; (try dsimp only at H); have A7 := Aside0.mk A70; clear A70 hT; obtain rfl := Option.some.inj H
        go_wp2_with (first | (go_at_call 5; (with_reducible refine (dropperlaw07_First.calls kj2  t602 _ A7.out).mono ?_); rintro e w8 ⟨rfl, hb⟩; have n0_ := Aside0.mk (below_step (by repeat (first | (with_reducible first | exact HB.out | apply below_alloc | apply pw_below_drewN | apply below_drew1) | exact HB.out)) hb); clear HB; have HB := n0_; clear n0_; (try clear hb); (try clear hb2); (try clear hk); (try clear hi)))
        repeat (go_quiet (first | (go_at_call 5; (with_reducible refine (dropperlaw07_First.calls kj2  t602 _ A7.out).mono ?_); rintro e w8 ⟨rfl, hb⟩; have n0_ := Aside0.mk (below_step (by repeat (first | (with_reducible first | exact HB.out | apply below_alloc | apply pw_below_drewN | apply below_drew1) | exact HB.out)) hb); clear HB; have HB := n0_; clear n0_; (try clear hb); (try clear hb2); (try clear hk); (try clear hi))); try go_wp2_with (first | (go_at_call 5; (with_reducible refine (dropperlaw07_First.calls kj2  t602 _ A7.out).mono ?_); rintro e w8 ⟨rfl, hb⟩; have n0_ := Aside0.mk (below_step (by repeat (first | (with_reducible first | exact HB.out | apply below_alloc | apply pw_below_drewN | apply below_drew1) | exact HB.out)) hb); clear HB; have HB := n0_; clear n0_; (try clear hb); (try clear hb2); (try clear hk); (try clear hi))))
        go_ret
        exact ⟨by first | rfl | (simp [errW_none, errW_some] <;> rfl) | (simp [*, errW_none, errW_some] <;> rfl), by repeat (first | (with_reducible first | exact HB.out | apply below_alloc | apply pw_below_drewN | apply below_drew1) | exact HB.out)⟩
      replace c6 := Bool.eq_false_iff.mpr c6; subst c6; rw [if_neg (show ¬ (false = true) by decide)] at H; replace H := Option.bind_eq_some_iff.mp H; obtain ⟨⟨t603, t604⟩, A90, H⟩ := H; (try dsimp only at H); have A9 := Aside0.mk A90; clear A90; replace H := Option.bind_eq_some_iff.mp H; obtain ⟨⟨t607, t608⟩, A100, H⟩ := H; (try dsimp only at H); have A10 := Aside0.mk A100; clear A100; have HC11 := Aside0.mk H; clear H
      go_upto_region 5 with (first | (go_at_call 6; (with_reducible refine (wear_Nearest.calls kj2 _ _ l0 t603 t604 _ ?side1 ?side2 A9.out).mono ?_); (case side1 => repeat (first | exact (Kd.C_below HR0.out HB.out) | (with_reducible refine Kd.C_alloc ?_ _) | (with_reducible refine Kd.C_drewN ?_ _) | (with_reducible refine Kd.C_drew ?_))); (case side2 => exact HC0.out); rintro e w12 ⟨v605, rfl, ho0, hb⟩; have n0_ := Aside0.mk (Kd.R_lower ho0 (below_size (by repeat (first | (with_reducible first | exact HB.out | apply below_alloc | apply pw_below_drewN | apply below_drew1) | exact HB.out)))); have n1_ := Aside0.mk (below_step (by repeat (first | (with_reducible first | exact HB.out | apply below_alloc | apply pw_below_drewN | apply below_drew1) | exact HB.out)) hb); clear HB; have HO606 := n0_; have HB := n1_; clear n0_ n1_; (try clear hb); (try clear hb2); (try clear hk); (try clear hi); (try clear ho0)) | (go_at_call 7; (with_reducible refine (wear_Blocks.calls kj2 _ _ l0 t607 t608 _ ?side1 ?side2 A10.out).mono ?_); (case side1 => repeat (first | exact (Kd.C_below HR0.out HB.out) | (with_reducible refine Kd.C_alloc ?_ _) | (with_reducible refine Kd.C_drewN ?_ _) | (with_reducible refine Kd.C_drew ?_))); (case side2 => exact HC0.out); rintro e w13 ⟨v609, rfl, ho0, hb⟩; have n0_ := Aside0.mk (Kd.R_below (by (with_reducible repeat (first | apply Kd.R_alloc | apply Kd.R_drewN | apply Kd.R_drew)); exact HO606.out) hb); have n1_ := Aside0.mk (Kd.R_lower ho0 (below_size (by repeat (first | (with_reducible first | exact HB.out | apply below_alloc | apply pw_below_drewN | apply below_drew1) | exact HB.out)))); have n2_ := Aside0.mk (below_step (by repeat (first | (with_reducible first | exact HB.out | apply below_alloc | apply pw_below_drewN | apply below_drew1) | exact HB.out)) hb); clear HO606; clear HB; have HO606 := n0_; have HO610 := n1_; have HB := n2_; clear n0_ n1_ n2_; (try clear hb); (try clear hb2); (try clear hk); (try clear hi); (try clear ho0)))
      repeat (go_quiet (first | (go_at_call 6; (with_reducible refine (wear_Nearest.calls kj2 _ _ l0 t603 t604 _ ?side1 ?side2 A9.out).mono ?_); (case side1 => repeat (first | exact (Kd.C_below HR0.out HB.out) | (with_reducible refine Kd.C_alloc ?_ _) | (with_reducible refine Kd.C_drewN ?_ _) | (with_reducible refine Kd.C_drew ?_))); (case side2 => exact HC0.out); rintro e w12 ⟨v605, rfl, ho0, hb⟩; have n0_ := Aside0.mk (Kd.R_lower ho0 (below_size (by repeat (first | (with_reducible first | exact HB.out | apply below_alloc | apply pw_below_drewN | apply below_drew1) | exact HB.out)))); have n1_ := Aside0.mk (below_step (by repeat (first | (with_reducible first | exact HB.out | apply below_alloc | apply pw_below_drewN | apply below_drew1) | exact HB.out)) hb); clear HB; have HO606 := n0_; have HB := n1_; clear n0_ n1_; (try clear hb); (try clear hb2); (try clear hk); (try clear hi); (try clear ho0)) | (go_at_call 7; (with_reducible refine (wear_Blocks.calls kj2 _ _ l0 t607 t608 _ ?side1 ?side2 A10.out).mono ?_); (case side1 => repeat (first | exact (Kd.C_below HR0.out HB.out) | (with_reducible refine Kd.C_alloc ?_ _) | (with_reducible refine Kd.C_drewN ?_ _) | (with_reducible refine Kd.C_drew ?_))); (case side2 => exact HC0.out); rintro e w13 ⟨v609, rfl, ho0, hb⟩; have n0_ := Aside0.mk (Kd.R_below (by (with_reducible repeat (first | apply Kd.R_alloc | apply Kd.R_drewN | apply Kd.R_drew)); exact HO606.out) hb); have n1_ := Aside0.mk (Kd.R_lower ho0 (below_size (by repeat (first | (with_reducible first | exact HB.out | apply below_alloc | apply pw_below_drewN | apply below_drew1) | exact HB.out)))); have n2_ := Aside0.mk (below_step (by repeat (first | (with_reducible first | exact HB.out | apply below_alloc | apply pw_below_drewN | apply below_drew1) | exact HB.out)) hb); clear HO606; clear HB; have HO606 := n0_; have HO610 := n1_; have HB := n2_; clear n0_ n1_ n2_; (try clear hb); (try clear hb2); (try clear hk); (try clear hi); (try clear ho0))); go_upto_region 5 with (first | (go_at_call 6; (with_reducible refine (wear_Nearest.calls kj2 _ _ l0 t603 t604 _ ?side1 ?side2 A9.out).mono ?_); (case side1 => repeat (first | exact (Kd.C_below HR0.out HB.out) | (with_reducible refine Kd.C_alloc ?_ _) | (with_reducible refine Kd.C_drewN ?_ _) | (with_reducible refine Kd.C_drew ?_))); (case side2 => exact HC0.out); rintro e w12 ⟨v605, rfl, ho0, hb⟩; have n0_ := Aside0.mk (Kd.R_lower ho0 (below_size (by repeat (first | (with_reducible first | exact HB.out | apply below_alloc | apply pw_below_drewN | apply below_drew1) | exact HB.out)))); have n1_ := Aside0.mk (below_step (by repeat (first | (with_reducible first | exact HB.out | apply below_alloc | apply pw_below_drewN | apply below_drew1) | exact HB.out)) hb); clear HB; have HO606 := n0_; have HB := n1_; clear n0_ n1_; (try clear hb); (try clear hb2); (try clear hk); (try clear hi); (try clear ho0)) | (go_at_call 7; (with_reducible refine (wear_Blocks.calls kj2 _ _ l0 t607 t608 _ ?side1 ?side2 A10.out).mono ?_); (case side1 => repeat (first | exact (Kd.C_below HR0.out HB.out) | (with_reducible refine Kd.C_alloc ?_ _) | (with_reducible refine Kd.C_drewN ?_ _) | (with_reducible refine Kd.C_drew ?_))); (case side2 => exact HC0.out); rintro e w13 ⟨v609, rfl, ho0, hb⟩; have n0_ := Aside0.mk (Kd.R_below (by (with_reducible repeat (first | apply Kd.R_alloc | apply Kd.R_drewN | apply Kd.R_drew)); exact HO606.out) hb); have n1_ := Aside0.mk (Kd.R_lower ho0 (below_size (by repeat (first | (with_reducible first | exact HB.out | apply below_alloc | apply pw_below_drewN | apply below_drew1) | exact HB.out)))); have n2_ := Aside0.mk (below_step (by repeat (first | (with_reducible first | exact HB.out | apply below_alloc | apply pw_below_drewN | apply below_drew1) | exact HB.out)) hb); clear HO606; clear HB; have HO606 := n0_; have HO610 := n1_; have HB := n2_; clear n0_ n1_ n2_; (try clear hb); (try clear hb2); (try clear hk); (try clear hi); (try clear ho0))))
      (try simp only [Act.put, List.setIfInBounds_toArray, List.set_cons_zero, List.set_cons_succ])
      go_cut [66] (fun v66 wc => ∃ (kq : Nat) (x66_10 : Bool), v66 = .bool x66_10 ∧ Aside0 (droppertop_TopWear.j1 kq l0 l1 t603 t607 x66_10 = some r) ∧ Aside0 (kq ≤ kj2) ∧ Aside0 (Kd.R k35 35 wc w.heap.size (fun _ => True) v605 t603) ∧ Aside0 (Kd.R (Kd.int .i64) 3 wc w.heap.size (fun _ => True) v609 t607) ∧ Aside0 (Below w.heap.size w wc))
      case first => as_aux_lemma =>
        have H := HC11.out; clear HC11; by_cases c14 : t604 = 0; rotate_left
        · rw [if_neg c14] at H; have c14b0 : (t604 == 0) = false := beq_eq_false_iff_ne.mpr c14; have c14b1 : (t604 != 0) = true := bne_iff_ne.mpr c14
          (first | rw [c14b0] | (simp only [i64_w, i32_w]; rw [c14b0]) | skip)
          exact absurd (H.trans (congrArg some hT)) (droppertop_TopWear.j1_no _ _ _ _ _)
        rw [if_pos c14] at H; have c14b0 : (t604 == 0) = true := beq_iff_eq.mpr c14; have c14b1 : (t604 != 0) = false := bne_eq_false_iff_eq.mpr c14; clear c14
        (first | rw [c14b0] | (simp only [i64_w, i32_w]; rw [c14b0]) | skip)
        by_cases c15 : t608 = 0; rotate_left
        · rw [if_neg c15] at H; have c15b0 : (t608 == 0) = false := beq_eq_false_iff_ne.mpr c15; have c15b1 : (t608 != 0) = true := bne_iff_ne.mpr c15; exact absurd (H.trans (congrArg some hT)) (droppertop_TopWear.j1_no _ _ _ _ _)
        rw [if_pos c15] at H; have c15b0 : (t608 == 0) = true := beq_iff_eq.mpr c15; have c15b1 : (t608 != 0) = false := bne_eq_false_iff_eq.mpr c15; clear c15; replace H := Option.bind_eq_some_iff.mp H; obtain ⟨t611, A160, H⟩ := H; (try dsimp only at H); have A16 := Aside0.mk A160; clear A160; by_cases c17 : t611 = true; rotate_left
        · replace c17 := Bool.eq_false_iff.mpr c17; subst c17; rw [if_neg (show ¬ (false = true) by decide)] at H; exact absurd (H.trans (congrArg some hT)) (droppertop_TopWear.j1_no _ _ _ _ _)
        subst c17; rw [if_pos rfl] at H; by_cases c18 : (t607.length : Int) = 0
        · rw [if_pos c18] at H; have c18b0 : ((t607.length : Int) == 0) = true := beq_iff_eq.mpr c18; have c18b1 : ((t607.length : Int) != 0) = false := bne_eq_false_iff_eq.mpr c18; clear c18; exact absurd (H.trans (congrArg some hT)) (droppertop_TopWear.j1_no _ _ _ _ _)
        rw [if_neg c18] at H; have c18b0 : ((t607.length : Int) == 0) = false := beq_eq_false_iff_ne.mpr c18; have c18b1 : ((t607.length : Int) != 0) = true := bne_iff_ne.mpr c18
        have c18b2 : ¬ (t607 = []) := fun h_ => c18 (by rw [h_]; rfl)
        by_cases c19 : 0 < (t607.length : Int); rotate_left
        · rw [if_neg c19] at H
          exact absurd H (by simp)
        rw [if_pos c19] at H; have c19b0 : decide (0 < (t607.length : Int)) = true := decide_eq_true c19
        have c19b1 : decide (0 < t607.length) = true := decide_eq_true (by omega)
        clear c19; have H' := Aside0.mk H; clear H; obtain ⟨Ao20, co20, eo20⟩ := Kd.R_slice HO606.out; subst eo20
        go_wp2_with (first | (go_at_call 8; (with_reducible refine (dropperref07_IsRow.calls kj2 _ _ l0 _ _ t603 true _ ?side1 ?side2 ?side3 ?side4 A16.out).mono ?_); (case side1 => repeat (first | exact (Kd.C_below HR0.out HB.out) | (with_reducible refine Kd.C_alloc ?_ _) | (with_reducible refine Kd.C_drewN ?_ _) | (with_reducible refine Kd.C_drew ?_))); (case side2 => exact HC0.out); (case side3 => repeat (first | exact (Kd.R_reads' HO606.out).2.2 | (with_reducible refine Kd.C_alloc ?_ _) | (with_reducible refine Kd.C_drewN ?_ _) | (with_reducible refine Kd.C_drew ?_))); (case side4 => exact (Kd.R_reads' HO606.out).2.1); rintro e w21 ⟨rfl, hb⟩; have n0_ := Aside0.mk (Kd.R_below (by (with_reducible repeat (first | apply Kd.R_alloc | apply Kd.R_drewN | apply Kd.R_drew)); exact HO606.out) hb); have n1_ := Aside0.mk (Kd.R_below (by (with_reducible repeat (first | apply Kd.R_alloc | apply Kd.R_drewN | apply Kd.R_drew)); exact HO610.out) hb); have n2_ := Aside0.mk (below_step (by repeat (first | (with_reducible first | exact HB.out | apply below_alloc | apply pw_below_drewN | apply below_drew1) | exact HB.out)) hb); clear HO606; clear HO610; clear HB; have HO606 := n0_; have HO610 := n1_; have HB := n2_; clear n0_ n1_ n2_; (try clear hb); (try clear hb2); (try clear hk); (try clear hi); obtain ⟨Ao22, co22, eo22⟩ := Kd.R_slice HO610.out; subst eo22; have p612 : 0 ≤ (0 : Int) := (by omega); have q612 : 0 < (t607.length : Int) := of_decide_eq_true (by first | (with_reducible assumption) | assumption); obtain ⟨ad612, e612, hx612_0⟩ := Kd.at_int (Kd.R_reads' HO610.out).2.2 0 p612 q612; cases e612; have qi612 : (0 < t607.length) = True := eq_true (by omega); (try rw [show ((0 : Int)).toNat = 0 from rfl] at hx612_0); (try rw [Addr.add_zero'] at hx612_0); replace p612 := eq_true p612; replace q612 := eq_true q612))
        repeat (go_quiet (first | (go_at_call 8; (with_reducible refine (dropperref07_IsRow.calls kj2 _ _ l0 _ _ t603 true _ ?side1 ?side2 ?side3 ?side4 A16.out).mono ?_); (case side1 => repeat (first | exact (Kd.C_below HR0.out HB.out) | (with_reducible refine Kd.C_alloc ?_ _) | (with_reducible refine Kd.C_drewN ?_ _) | (with_reducible refine Kd.C_drew ?_))); (case side2 => exact HC0.out); (case side3 => repeat (first | exact (Kd.R_reads' HO606.out).2.2 | (with_reducible refine Kd.C_alloc ?_ _) | (with_reducible refine Kd.C_drewN ?_ _) | (with_reducible refine Kd.C_drew ?_))); (case side4 => exact (Kd.R_reads' HO606.out).2.1); rintro e w21 ⟨rfl, hb⟩; have n0_ := Aside0.mk (Kd.R_below (by (with_reducible repeat (first | apply Kd.R_alloc | apply Kd.R_drewN | apply Kd.R_drew)); exact HO606.out) hb); have n1_ := Aside0.mk (Kd.R_below (by (with_reducible repeat (first | apply Kd.R_alloc | apply Kd.R_drewN | apply Kd.R_drew)); exact HO610.out) hb); have n2_ := Aside0.mk (below_step (by repeat (first | (with_reducible first | exact HB.out | apply below_alloc | apply pw_below_drewN | apply below_drew1) | exact HB.out)) hb); clear HO606; clear HO610; clear HB; have HO606 := n0_; have HO610 := n1_; have HB := n2_; clear n0_ n1_ n2_; (try clear hb); (try clear hb2); (try clear hk); (try clear hi); obtain ⟨Ao22, co22, eo22⟩ := Kd.R_slice HO610.out; subst eo22; have p612 : 0 ≤ (0 : Int) := (by omega); have q612 : 0 < (t607.length : Int) := of_decide_eq_true (by first | (with_reducible assumption) | assumption); obtain ⟨ad612, e612, hx612_0⟩ := Kd.at_int (Kd.R_reads' HO610.out).2.2 0 p612 q612; cases e612; have qi612 : (0 < t607.length) = True := eq_true (by omega); (try rw [show ((0 : Int)).toNat = 0 from rfl] at hx612_0); (try rw [Addr.add_zero'] at hx612_0); replace p612 := eq_true p612; replace q612 := eq_true q612)); try go_wp2_with (first | (go_at_call 8; (with_reducible refine (dropperref07_IsRow.calls kj2 _ _ l0 _ _ t603 true _ ?side1 ?side2 ?side3 ?side4 A16.out).mono ?_); (case side1 => repeat (first | exact (Kd.C_below HR0.out HB.out) | (with_reducible refine Kd.C_alloc ?_ _) | (with_reducible refine Kd.C_drewN ?_ _) | (with_reducible refine Kd.C_drew ?_))); (case side2 => exact HC0.out); (case side3 => repeat (first | exact (Kd.R_reads' HO606.out).2.2 | (with_reducible refine Kd.C_alloc ?_ _) | (with_reducible refine Kd.C_drewN ?_ _) | (with_reducible refine Kd.C_drew ?_))); (case side4 => exact (Kd.R_reads' HO606.out).2.1); rintro e w21 ⟨rfl, hb⟩; have n0_ := Aside0.mk (Kd.R_below (by (with_reducible repeat (first | apply Kd.R_alloc | apply Kd.R_drewN | apply Kd.R_drew)); exact HO606.out) hb); have n1_ := Aside0.mk (Kd.R_below (by (with_reducible repeat (first | apply Kd.R_alloc | apply Kd.R_drewN | apply Kd.R_drew)); exact HO610.out) hb); have n2_ := Aside0.mk (below_step (by repeat (first | (with_reducible first | exact HB.out | apply below_alloc | apply pw_below_drewN | apply below_drew1) | exact HB.out)) hb); clear HO606; clear HO610; clear HB; have HO606 := n0_; have HO610 := n1_; have HB := n2_; clear n0_ n1_ n2_; (try clear hb); (try clear hb2); (try clear hk); (try clear hi); obtain ⟨Ao22, co22, eo22⟩ := Kd.R_slice HO610.out; subst eo22; have p612 : 0 ≤ (0 : Int) := (by omega); have q612 : 0 < (t607.length : Int) := of_decide_eq_true (by first | (with_reducible assumption) | assumption); obtain ⟨ad612, e612, hx612_0⟩ := Kd.at_int (Kd.R_reads' HO610.out).2.2 0 p612 q612; cases e612; have qi612 : (0 < t607.length) = True := eq_true (by omega); (try rw [show ((0 : Int)).toNat = 0 from rfl] at hx612_0); (try rw [Addr.add_zero'] at hx612_0); replace p612 := eq_true p612; replace q612 := eq_true q612)))
        go_meet
        case rel => exact ⟨_, (((rd t607 0) != 0)), (by first | rfl | (simp; done) | (simp [*]; done)), H', ⟨by have := HJ2.out; first | omega | exact Nat.le_refl _⟩, ⟨by (with_reducible repeat (first | apply Kd.R_alloc | apply Kd.R_drewN | apply Kd.R_drew)); exact HO606.out⟩, ⟨by (with_reducible repeat (first | apply Kd.R_alloc | apply Kd.R_drewN | apply Kd.R_drew)); exact HO610.out⟩, ⟨by repeat (first | (with_reducible first | exact HB.out | apply below_alloc | apply pw_below_drewN | apply below_drew1) | exact HB.out)⟩⟩
      case rest => as_aux_lemma =>
        clear HC11
        try clear c1
        try clear p2
        try clear c3
        try clear c5
        try clear c6
        try clear p6
        try clear q6
        try clear hx6
        try clear qi6
        try clear c14
        try clear c14b0
        try clear c14b1
        try clear c15
        try clear c15b0
        try clear c15b1
        try clear c17
        try clear c18
        try clear c18b0
        try clear c18b1
        try clear c18b2
        try clear c19
        try clear c19b0
        try clear c19b1
        try clear hx612_0
        try clear p2
        try clear p612
        try clear q612
        obtain ⟨kq, x66_10, rfl, HA, HJ10, HO_5, HO_7, HB⟩ := hcut
        cases kq with
        | zero => exact absurd HA.out (by simp [droppertop_TopWear.j1])
        | succ kj10 =>
          have H := HA.out; clear HA; simp only [droppertop_TopWear.j1] at H; by_cases c23 : x66_10 = true
          · subst c23; rw [if_pos rfl] at H
            exact absurd (hT.symm.trans (Option.some.inj H).symm) (by decide)
          replace c23 := Bool.eq_false_iff.mpr c23; subst c23; rw [if_neg (show ¬ (false = true) by decide)] at H; replace H := Option.bind_eq_some_iff.mp H; obtain ⟨⟨t613, t614⟩, A240, H⟩ := H; (try dsimp only at H); have A24 := Aside0.mk A240; clear A240; have HC25 := Aside0.mk H; clear H; obtain ⟨Ao26, co26, eo26⟩ := Kd.R_slice HO_5.out; subst eo26
          go_upto_region 8 with (first | (go_at_call 9; (with_reducible refine (wear_Grows.calls kj10 _ _ l0 _ _ t603 t613 t614 _ ?side1 ?side2 ?side3 ?side4 A24.out).mono ?_); (case side1 => repeat (first | exact (Kd.C_below HR0.out HB.out) | (with_reducible refine Kd.C_alloc ?_ _) | (with_reducible refine Kd.C_drewN ?_ _) | (with_reducible refine Kd.C_drew ?_))); (case side2 => exact HC0.out); (case side3 => repeat (first | exact (Kd.R_reads' HO_5.out).2.2 | (with_reducible refine Kd.C_alloc ?_ _) | (with_reducible refine Kd.C_drewN ?_ _) | (with_reducible refine Kd.C_drew ?_))); (case side4 => exact (Kd.R_reads' HO_5.out).2.1); rintro e w27 ⟨rfl, hb⟩; have n0_ := Aside0.mk (Kd.R_below (by (with_reducible repeat (first | apply Kd.R_alloc | apply Kd.R_drewN | apply Kd.R_drew)); exact HO_5.out) hb); have n1_ := Aside0.mk (Kd.R_below (by (with_reducible repeat (first | apply Kd.R_alloc | apply Kd.R_drewN | apply Kd.R_drew)); exact HO_7.out) hb); have n2_ := Aside0.mk (below_step (by repeat (first | (with_reducible first | exact HB.out | apply below_alloc | apply pw_below_drewN | apply below_drew1) | exact HB.out)) hb); clear HO_5; clear HO_7; clear HB; have HO_5 := n0_; have HO_7 := n1_; have HB := n2_; clear n0_ n1_ n2_; (try clear hb); (try clear hb2); (try clear hk); (try clear hi)))
          repeat (go_quiet (first | (go_at_call 9; (with_reducible refine (wear_Grows.calls kj10 _ _ l0 _ _ t603 t613 t614 _ ?side1 ?side2 ?side3 ?side4 A24.out).mono ?_); (case side1 => repeat (first | exact (Kd.C_below HR0.out HB.out) | (with_reducible refine Kd.C_alloc ?_ _) | (with_reducible refine Kd.C_drewN ?_ _) | (with_reducible refine Kd.C_drew ?_))); (case side2 => exact HC0.out); (case side3 => repeat (first | exact (Kd.R_reads' HO_5.out).2.2 | (with_reducible refine Kd.C_alloc ?_ _) | (with_reducible refine Kd.C_drewN ?_ _) | (with_reducible refine Kd.C_drew ?_))); (case side4 => exact (Kd.R_reads' HO_5.out).2.1); rintro e w27 ⟨rfl, hb⟩; have n0_ := Aside0.mk (Kd.R_below (by (with_reducible repeat (first | apply Kd.R_alloc | apply Kd.R_drewN | apply Kd.R_drew)); exact HO_5.out) hb); have n1_ := Aside0.mk (Kd.R_below (by (with_reducible repeat (first | apply Kd.R_alloc | apply Kd.R_drewN | apply Kd.R_drew)); exact HO_7.out) hb); have n2_ := Aside0.mk (below_step (by repeat (first | (with_reducible first | exact HB.out | apply below_alloc | apply pw_below_drewN | apply below_drew1) | exact HB.out)) hb); clear HO_5; clear HO_7; clear HB; have HO_5 := n0_; have HO_7 := n1_; have HB := n2_; clear n0_ n1_ n2_; (try clear hb); (try clear hb2); (try clear hk); (try clear hi))); go_upto_region 8 with (first | (go_at_call 9; (with_reducible refine (wear_Grows.calls kj10 _ _ l0 _ _ t603 t613 t614 _ ?side1 ?side2 ?side3 ?side4 A24.out).mono ?_); (case side1 => repeat (first | exact (Kd.C_below HR0.out HB.out) | (with_reducible refine Kd.C_alloc ?_ _) | (with_reducible refine Kd.C_drewN ?_ _) | (with_reducible refine Kd.C_drew ?_))); (case side2 => exact HC0.out); (case side3 => repeat (first | exact (Kd.R_reads' HO_5.out).2.2 | (with_reducible refine Kd.C_alloc ?_ _) | (with_reducible refine Kd.C_drewN ?_ _) | (with_reducible refine Kd.C_drew ?_))); (case side4 => exact (Kd.R_reads' HO_5.out).2.1); rintro e w27 ⟨rfl, hb⟩; have n0_ := Aside0.mk (Kd.R_below (by (with_reducible repeat (first | apply Kd.R_alloc | apply Kd.R_drewN | apply Kd.R_drew)); exact HO_5.out) hb); have n1_ := Aside0.mk (Kd.R_below (by (with_reducible repeat (first | apply Kd.R_alloc | apply Kd.R_drewN | apply Kd.R_drew)); exact HO_7.out) hb); have n2_ := Aside0.mk (below_step (by repeat (first | (with_reducible first | exact HB.out | apply below_alloc | apply pw_below_drewN | apply below_drew1) | exact HB.out)) hb); clear HO_5; clear HO_7; clear HB; have HO_5 := n0_; have HO_7 := n1_; have HB := n2_; clear n0_ n1_ n2_; (try clear hb); (try clear hb2); (try clear hk); (try clear hi))))
          (try simp only [Act.put, List.setIfInBounds_toArray, List.set_cons_zero, List.set_cons_succ])
          go_cut [78] (fun v78 wc => ∃ (kq : Nat) (x78_24 : Bool), v78 = .bool x78_24 ∧ Aside0 (droppertop_TopWear.j2 kq l0 l1 t603 t607 x78_24 = some r) ∧ Aside0 (kq ≤ kj10) ∧ Aside0 (Kd.R k35 35 wc w.heap.size (fun _ => True) (.slice Ao26 t603.length co26) t603) ∧ Aside0 (Kd.R (Kd.int .i64) 3 wc w.heap.size (fun _ => True) v609 t607) ∧ Aside0 (Below w.heap.size w wc))
          case first => as_aux_lemma =>
            have H := HC25.out; clear HC25; by_cases c28 : t614 = 0; rotate_left
            · rw [if_neg c28] at H; have c28b0 : (t614 == 0) = false := beq_eq_false_iff_ne.mpr c28; have c28b1 : (t614 != 0) = true := bne_iff_ne.mpr c28
              (first | rw [c28b0] | (simp only [i64_w, i32_w]; rw [c28b0]) | skip)
              exact absurd (H.trans (congrArg some hT)) (droppertop_TopWear.j2_no _ _ _ _ _)
            rw [if_pos c28] at H; have c28b0 : (t614 == 0) = true := beq_iff_eq.mpr c28; have c28b1 : (t614 != 0) = false := bne_eq_false_iff_eq.mpr c28; clear c28
            (first | rw [c28b0] | (simp only [i64_w, i32_w]; rw [c28b0]) | skip)
            have H' := Aside0.mk H; clear H
            go_wp2
            repeat (go_quiet (fail); try go_wp2)
            go_meet
            case rel => exact ⟨_, (!t613), (by first | rfl | (simp; done) | (simp [*]; done)), H', ⟨by have := HJ2.out; have := HJ10.out; first | omega | exact Nat.le_refl _⟩, ⟨by (with_reducible repeat (first | apply Kd.R_alloc | apply Kd.R_drewN | apply Kd.R_drew)); exact HO_5.out⟩, ⟨by (with_reducible repeat (first | apply Kd.R_alloc | apply Kd.R_drewN | apply Kd.R_drew)); exact HO_7.out⟩, ⟨by repeat (first | (with_reducible first | exact HB.out | apply below_alloc | apply pw_below_drewN | apply below_drew1) | exact HB.out)⟩⟩
          case rest => as_aux_lemma =>
            clear HC25
            try clear c1
            try clear c2
            try clear p2
            try clear c3
            try clear c5
            try clear c6
            try clear p6
            try clear q6
            try clear hx6
            try clear qi6
            try clear c14
            try clear c14b0
            try clear c14b1
            try clear c15
            try clear c15b0
            try clear c15b1
            try clear c17
            try clear c18
            try clear c18b0
            try clear c18b1
            try clear c18b2
            try clear c19
            try clear c19b0
            try clear c19b1
            try clear c23
            try clear c28
            try clear c28b0
            try clear c28b1
            try clear hx612_0
            try clear p2
            try clear p6
            try clear p612
            try clear q6
            try clear q612
            obtain ⟨kq, x78_24, rfl, HA, HJ24, HO_5, HO_7, HB⟩ := hcut
            cases kq with
            | zero => exact absurd HA.out (by simp [droppertop_TopWear.j2])
            | succ kj24 =>
              have H := HA.out; clear HA; simp only [droppertop_TopWear.j2] at H; by_cases c29 : x78_24 = true
              · subst c29; rw [if_pos rfl] at H
                exact absurd (hT.symm.trans (Option.some.inj H).symm) (by decide)
              replace c29 := Bool.eq_false_iff.mpr c29; subst c29; rw [if_neg (show ¬ (false = true) by decide)] at H; have H' := Aside0.mk H; clear H
              go_wp2
              repeat (go_quiet (fail); try go_wp2)
              go_loopg [11] kj24 (fun kq v11 w' => ∃ (x11_4 : Int), v11 = .int .i64 x11_4 ∧ Aside0 (droppertop_TopWear.l0 kq l0 l1 t603 t607 x11_4 = some r) ∧ Aside0 (kq ≤ kj24) ∧ Aside0 (Kd.R k35 35 w' w.heap.size (fun _ => True) (.slice Ao26 t603.length co26) t603) ∧ Aside0 (Kd.R (Kd.int .i64) 3 w' w.heap.size (fun _ => True) v609 t607) ∧ Aside0 (Below w.heap.size w w'))
              case atStart => exact ⟨(0), (by first | rfl | (simp; done) | (simp [*]; done)), H', ⟨Nat.le_refl _⟩, ⟨by (with_reducible repeat (first | apply Kd.R_alloc | apply Kd.R_drewN | apply Kd.R_drew)); exact HO_5.out⟩, ⟨by (with_reducible repeat (first | apply Kd.R_alloc | apply Kd.R_drewN | apply Kd.R_drew)); exact HO_7.out⟩, ⟨by repeat (first | (with_reducible first | exact HB.out | apply below_alloc | apply pw_below_drewN | apply below_drew1) | exact HB.out)⟩⟩
              case round =>
                clear H'
                try clear c1
                try clear c2
                try clear p2
                try clear c3
                try clear c5
                try clear c6
                try clear p6
                try clear q6
                try clear hx6
                try clear qi6
                try clear c14
                try clear c14b0
                try clear c14b1
                try clear c15
                try clear c15b0
                try clear c15b1
                try clear c17
                try clear c18
                try clear c18b0
                try clear c18b1
                try clear c18b2
                try clear c19
                try clear c19b0
                try clear c19b1
                try clear c23
                try clear c28
                try clear c28b0
                try clear c28b1
                try clear c29
                try clear hx612_0
                try clear p2
                try clear p6
                try clear p612
                try clear q6
                try clear q612
                obtain ⟨x11_4, rfl, HA, HK4, HO_5, HO_7, HB⟩ := hrel
                cases gk with
                | zero => exact absurd HA.out (by simp [droppertop_TopWear.l0])
                | succ k4 =>
                  have H := HA.out; clear HA; simp only [droppertop_TopWear.l0] at H; by_cases c30 : x11_4 < (l0.length : Int)
                  · rw [if_pos c30] at H; have c30b0 : decide (x11_4 < (l0.length : Int)) = true := decide_eq_true c30; clear c30; replace H := Option.bind_eq_some_iff.mp H; obtain ⟨⟨t615, t616, t617⟩, A310, H⟩ := H; (try dsimp only at H); have A31 := Aside0.mk A310; clear A310; by_cases c32 : t617 = 0; rotate_left
                    · rw [if_neg c32] at H; have c32b0 : (t617 == 0) = false := beq_eq_false_iff_ne.mpr c32; have c32b1 : (t617 != 0) = true := bne_iff_ne.mpr c32
                      exact absurd (hT.symm.trans (Option.some.inj H).symm) (by decide)
                    rw [if_pos c32] at H; have c32b0 : (t617 == 0) = true := beq_iff_eq.mpr c32; have c32b1 : (t617 != 0) = false := bne_eq_false_iff_eq.mpr c32; clear c32; by_cases c33 : 0 ≤ x11_4; rotate_left
                    · rw [if_neg c33] at H
                      exact absurd H (by simp)
                    rw [if_pos c33] at H; have c33b0 : decide (0 ≤ x11_4) = true := decide_eq_true c33; clear c33; by_cases c34 : x11_4 < (t603.length : Int); rotate_left
                    · rw [if_neg c34] at H
                      exact absurd H (by simp)
                    rw [if_pos c34] at H; have c34b0 : decide (x11_4 < (t603.length : Int)) = true := decide_eq_true c34; clear c34
                    by_cases c35 : (!(t615 == ((rd_T35 t603 x11_4).f0)) || (!(t616 == ((rd_T35 t603 x11_4).f1)))) = true
                    · rw [if_pos c35] at H
                      have c35b0 : (!(t615 == ((rd_T35 t603 x11_4).f0)) || (!(t616 == ((rd_T35 t603 x11_4).f1)))) = true := c35
                      clear c35
                      exact absurd (hT.symm.trans (Option.some.inj H).symm) (by decide)
                    rw [if_neg c35] at H
                    have c35b0 : (!(t615 == ((rd_T35 t603 x11_4).f0)) || (!(t616 == ((rd_T35 t603 x11_4).f1)))) = false := by simpa using c35
                    clear c35; have H' := Aside0.mk H; clear H
                    go_wp2_with (first | (go_at_call 10; (with_reducible refine (wear_Between.calls k4 _ _ l0 x11_4 t615 t616 t617 _ ?side1 ?side2 A31.out).mono ?_); (case side1 => repeat (first | exact (Kd.C_below HR0.out HB.out) | (with_reducible refine Kd.C_alloc ?_ _) | (with_reducible refine Kd.C_drewN ?_ _) | (with_reducible refine Kd.C_drew ?_))); (case side2 => exact HC0.out); rintro e w36 ⟨rfl, hb⟩; have n0_ := Aside0.mk (Kd.R_below (by (with_reducible repeat (first | apply Kd.R_alloc | apply Kd.R_drewN | apply Kd.R_drew)); exact HO_5.out) hb); have n1_ := Aside0.mk (Kd.R_below (by (with_reducible repeat (first | apply Kd.R_alloc | apply Kd.R_drewN | apply Kd.R_drew)); exact HO_7.out) hb); have n2_ := Aside0.mk (below_step (by repeat (first | (with_reducible first | exact HB.out | apply below_alloc | apply pw_below_drewN | apply below_drew1) | exact HB.out)) hb); clear HO_5; clear HO_7; clear HB; have HO_5 := n0_; have HO_7 := n1_; have HB := n2_; clear n0_ n1_ n2_; (try clear hb); (try clear hb2); (try clear hk); (try clear hi)) | ((with_reducible refine gate_dst (N := 12) rfl ?_); (try (refine gate_guard (by rfl) ?_; dsimp only)); refine box_event ?hg (N := 12) ?hd (cs := #[.int .i64 0, .int .i64 0]) (t := 35) ?hr ?_; (case hd => rfl); (case hg => rfl); (case hr => first | (go_simp; done) | (go_simp; rfl)); intro gb618 hg w37 hbox hb; have n0_ := Aside0.mk (Kd.R_below (Kd.R_elderB (by (with_reducible repeat (first | apply Kd.R_alloc | apply Kd.R_drewN | apply Kd.R_drew)); exact HO_5.out) gb618 (Nat.le_of_eq hg.symm)) hb); have n1_ := Aside0.mk (Kd.R_below (by (with_reducible repeat (first | apply Kd.R_alloc | apply Kd.R_drewN | apply Kd.R_drew)); exact HO_7.out) hb); have n2_ := Aside0.mk (below_step (by repeat (first | (with_reducible first | exact HB.out | apply below_alloc | apply pw_below_drewN | apply below_drew1) | exact HB.out)) hb); have n3_ := Aside0.mk (hbox); have n4_ := Aside0.mk ((by rw [hg]; exact (below_size (by repeat (first | (with_reducible first | exact HB.out | apply below_alloc | apply pw_below_drewN | apply below_drew1) | exact HB.out))) : w.heap.size ≤ gb618)); have n5_ := Aside0.mk ((by rw [hg]; exact (below_size (by repeat (first | (with_reducible first | exact HB.out | apply below_alloc | apply pw_below_drewN | apply below_drew1) | exact HB.out))) : w.heap.size ≤ gb618)); clear HO_5; clear HO_7; clear HB; have HO_5 := n0_; have HO_7 := n1_; have HB := n2_; have BK618 := n3_; have GW618 := n4_; have GE618 := n5_; clear n0_ n1_ n2_ n3_ n4_ n5_; clear hb hbox hg; have hcz38_0 : w37.cell? ⟨gb618, 0, none⟩ = some (.int .i64 0) := (blk_cell BK618.out 0).trans rfl; have hcz38_1 : w37.cell? ⟨gb618, 1, none⟩ = some (.int .i64 0) := (blk_cell BK618.out 1).trans rfl; have hfz38_0 := blk_frozen BK618.out 0; have hfz38_1 := blk_frozen BK618.out 1; have p619 : 0 ≤ (x11_4 : Int) := of_decide_eq_true (by first | (with_reducible assumption) | assumption); have q619 : x11_4 < (t603.length : Int) := of_decide_eq_true (by first | (with_reducible assumption) | assumption); obtain ⟨ad619, e619, hx619_0, hx619_1⟩ := at_T35 (Kd.R_reads' HO_5.out).2.2 x11_4 p619 q619; cases e619; have hn619_0 : ad619.block ≠ gb618 := Kd.own_blk (Kd.R_away HO_5.out (fun _ hk => hk.2)); have hn619_1 : ad619.block ≠ gb618 := Kd.own_blk (Kd.R_away HO_5.out (fun _ hk => hk.2)); replace hx619_0 := (cell_far (p := ⟨gb618, 0, none⟩) (by first | (rw [add_block]; exact hn619_0) | (show (Addr.add _ _).block ≠ _; rw [add_block]; exact hn619_0) | exact hn619_0) (.int .i64 t615)).trans hx619_0; replace hx619_1 := (cell_far (p := ⟨gb618, 0, none⟩) (by first | (rw [add_block]; exact hn619_0) | (show (Addr.add _ _).block ≠ _; rw [add_block]; exact hn619_0) | exact hn619_0) (.int .i64 t615)).trans hx619_1; replace hx619_0 := (cell_far (p := ⟨gb618, 1, none⟩) (by first | (rw [add_block]; exact hn619_1) | (show (Addr.add _ _).block ≠ _; rw [add_block]; exact hn619_1) | exact hn619_1) (.int .i64 t616)).trans hx619_0; replace hx619_1 := (cell_far (p := ⟨gb618, 1, none⟩) (by first | (rw [add_block]; exact hn619_1) | (show (Addr.add _ _).block ≠ _; rw [add_block]; exact hn619_1) | exact hn619_1) (.int .i64 t616)).trans hx619_1; (try have hy619_0 := fun (n_ : Nat) => (show ((((w37.drewN n_).setCell ⟨gb618, 0, none⟩ (.int .i64 t615)).setCell ⟨gb618, 1, none⟩ (.int .i64 t616))).cell? _ = some _ from hx619_0)); (try have hy619_1 := fun (n_ : Nat) => (show ((((w37.drewN n_).setCell ⟨gb618, 0, none⟩ (.int .i64 t615)).setCell ⟨gb618, 1, none⟩ (.int .i64 t616))).cell? _ = some _ from hx619_1)); clear hn619_0; clear hn619_1; replace p619 := eq_true p619; replace q619 := eq_true q619))
                    repeat (go_quiet (first | (go_at_call 10; (with_reducible refine (wear_Between.calls k4 _ _ l0 x11_4 t615 t616 t617 _ ?side1 ?side2 A31.out).mono ?_); (case side1 => repeat (first | exact (Kd.C_below HR0.out HB.out) | (with_reducible refine Kd.C_alloc ?_ _) | (with_reducible refine Kd.C_drewN ?_ _) | (with_reducible refine Kd.C_drew ?_))); (case side2 => exact HC0.out); rintro e w36 ⟨rfl, hb⟩; have n0_ := Aside0.mk (Kd.R_below (by (with_reducible repeat (first | apply Kd.R_alloc | apply Kd.R_drewN | apply Kd.R_drew)); exact HO_5.out) hb); have n1_ := Aside0.mk (Kd.R_below (by (with_reducible repeat (first | apply Kd.R_alloc | apply Kd.R_drewN | apply Kd.R_drew)); exact HO_7.out) hb); have n2_ := Aside0.mk (below_step (by repeat (first | (with_reducible first | exact HB.out | apply below_alloc | apply pw_below_drewN | apply below_drew1) | exact HB.out)) hb); clear HO_5; clear HO_7; clear HB; have HO_5 := n0_; have HO_7 := n1_; have HB := n2_; clear n0_ n1_ n2_; (try clear hb); (try clear hb2); (try clear hk); (try clear hi)) | ((with_reducible refine gate_dst (N := 12) rfl ?_); (try (refine gate_guard (by rfl) ?_; dsimp only)); refine box_event ?hg (N := 12) ?hd (cs := #[.int .i64 0, .int .i64 0]) (t := 35) ?hr ?_; (case hd => rfl); (case hg => rfl); (case hr => first | (go_simp; done) | (go_simp; rfl)); intro gb618 hg w37 hbox hb; have n0_ := Aside0.mk (Kd.R_below (Kd.R_elderB (by (with_reducible repeat (first | apply Kd.R_alloc | apply Kd.R_drewN | apply Kd.R_drew)); exact HO_5.out) gb618 (Nat.le_of_eq hg.symm)) hb); have n1_ := Aside0.mk (Kd.R_below (by (with_reducible repeat (first | apply Kd.R_alloc | apply Kd.R_drewN | apply Kd.R_drew)); exact HO_7.out) hb); have n2_ := Aside0.mk (below_step (by repeat (first | (with_reducible first | exact HB.out | apply below_alloc | apply pw_below_drewN | apply below_drew1) | exact HB.out)) hb); have n3_ := Aside0.mk (hbox); have n4_ := Aside0.mk ((by rw [hg]; exact (below_size (by repeat (first | (with_reducible first | exact HB.out | apply below_alloc | apply pw_below_drewN | apply below_drew1) | exact HB.out))) : w.heap.size ≤ gb618)); have n5_ := Aside0.mk ((by rw [hg]; exact (below_size (by repeat (first | (with_reducible first | exact HB.out | apply below_alloc | apply pw_below_drewN | apply below_drew1) | exact HB.out))) : w.heap.size ≤ gb618)); clear HO_5; clear HO_7; clear HB; have HO_5 := n0_; have HO_7 := n1_; have HB := n2_; have BK618 := n3_; have GW618 := n4_; have GE618 := n5_; clear n0_ n1_ n2_ n3_ n4_ n5_; clear hb hbox hg; have hcz38_0 : w37.cell? ⟨gb618, 0, none⟩ = some (.int .i64 0) := (blk_cell BK618.out 0).trans rfl; have hcz38_1 : w37.cell? ⟨gb618, 1, none⟩ = some (.int .i64 0) := (blk_cell BK618.out 1).trans rfl; have hfz38_0 := blk_frozen BK618.out 0; have hfz38_1 := blk_frozen BK618.out 1; have p619 : 0 ≤ (x11_4 : Int) := of_decide_eq_true (by first | (with_reducible assumption) | assumption); have q619 : x11_4 < (t603.length : Int) := of_decide_eq_true (by first | (with_reducible assumption) | assumption); obtain ⟨ad619, e619, hx619_0, hx619_1⟩ := at_T35 (Kd.R_reads' HO_5.out).2.2 x11_4 p619 q619; cases e619; have hn619_0 : ad619.block ≠ gb618 := Kd.own_blk (Kd.R_away HO_5.out (fun _ hk => hk.2)); have hn619_1 : ad619.block ≠ gb618 := Kd.own_blk (Kd.R_away HO_5.out (fun _ hk => hk.2)); replace hx619_0 := (cell_far (p := ⟨gb618, 0, none⟩) (by first | (rw [add_block]; exact hn619_0) | (show (Addr.add _ _).block ≠ _; rw [add_block]; exact hn619_0) | exact hn619_0) (.int .i64 t615)).trans hx619_0; replace hx619_1 := (cell_far (p := ⟨gb618, 0, none⟩) (by first | (rw [add_block]; exact hn619_0) | (show (Addr.add _ _).block ≠ _; rw [add_block]; exact hn619_0) | exact hn619_0) (.int .i64 t615)).trans hx619_1; replace hx619_0 := (cell_far (p := ⟨gb618, 1, none⟩) (by first | (rw [add_block]; exact hn619_1) | (show (Addr.add _ _).block ≠ _; rw [add_block]; exact hn619_1) | exact hn619_1) (.int .i64 t616)).trans hx619_0; replace hx619_1 := (cell_far (p := ⟨gb618, 1, none⟩) (by first | (rw [add_block]; exact hn619_1) | (show (Addr.add _ _).block ≠ _; rw [add_block]; exact hn619_1) | exact hn619_1) (.int .i64 t616)).trans hx619_1; (try have hy619_0 := fun (n_ : Nat) => (show ((((w37.drewN n_).setCell ⟨gb618, 0, none⟩ (.int .i64 t615)).setCell ⟨gb618, 1, none⟩ (.int .i64 t616))).cell? _ = some _ from hx619_0)); (try have hy619_1 := fun (n_ : Nat) => (show ((((w37.drewN n_).setCell ⟨gb618, 0, none⟩ (.int .i64 t615)).setCell ⟨gb618, 1, none⟩ (.int .i64 t616))).cell? _ = some _ from hx619_1)); clear hn619_0; clear hn619_1; replace p619 := eq_true p619; replace q619 := eq_true q619)); try go_wp2_with (first | (go_at_call 10; (with_reducible refine (wear_Between.calls k4 _ _ l0 x11_4 t615 t616 t617 _ ?side1 ?side2 A31.out).mono ?_); (case side1 => repeat (first | exact (Kd.C_below HR0.out HB.out) | (with_reducible refine Kd.C_alloc ?_ _) | (with_reducible refine Kd.C_drewN ?_ _) | (with_reducible refine Kd.C_drew ?_))); (case side2 => exact HC0.out); rintro e w36 ⟨rfl, hb⟩; have n0_ := Aside0.mk (Kd.R_below (by (with_reducible repeat (first | apply Kd.R_alloc | apply Kd.R_drewN | apply Kd.R_drew)); exact HO_5.out) hb); have n1_ := Aside0.mk (Kd.R_below (by (with_reducible repeat (first | apply Kd.R_alloc | apply Kd.R_drewN | apply Kd.R_drew)); exact HO_7.out) hb); have n2_ := Aside0.mk (below_step (by repeat (first | (with_reducible first | exact HB.out | apply below_alloc | apply pw_below_drewN | apply below_drew1) | exact HB.out)) hb); clear HO_5; clear HO_7; clear HB; have HO_5 := n0_; have HO_7 := n1_; have HB := n2_; clear n0_ n1_ n2_; (try clear hb); (try clear hb2); (try clear hk); (try clear hi)) | ((with_reducible refine gate_dst (N := 12) rfl ?_); (try (refine gate_guard (by rfl) ?_; dsimp only)); refine box_event ?hg (N := 12) ?hd (cs := #[.int .i64 0, .int .i64 0]) (t := 35) ?hr ?_; (case hd => rfl); (case hg => rfl); (case hr => first | (go_simp; done) | (go_simp; rfl)); intro gb618 hg w37 hbox hb; have n0_ := Aside0.mk (Kd.R_below (Kd.R_elderB (by (with_reducible repeat (first | apply Kd.R_alloc | apply Kd.R_drewN | apply Kd.R_drew)); exact HO_5.out) gb618 (Nat.le_of_eq hg.symm)) hb); have n1_ := Aside0.mk (Kd.R_below (by (with_reducible repeat (first | apply Kd.R_alloc | apply Kd.R_drewN | apply Kd.R_drew)); exact HO_7.out) hb); have n2_ := Aside0.mk (below_step (by repeat (first | (with_reducible first | exact HB.out | apply below_alloc | apply pw_below_drewN | apply below_drew1) | exact HB.out)) hb); have n3_ := Aside0.mk (hbox); have n4_ := Aside0.mk ((by rw [hg]; exact (below_size (by repeat (first | (with_reducible first | exact HB.out | apply below_alloc | apply pw_below_drewN | apply below_drew1) | exact HB.out))) : w.heap.size ≤ gb618)); have n5_ := Aside0.mk ((by rw [hg]; exact (below_size (by repeat (first | (with_reducible first | exact HB.out | apply below_alloc | apply pw_below_drewN | apply below_drew1) | exact HB.out))) : w.heap.size ≤ gb618)); clear HO_5; clear HO_7; clear HB; have HO_5 := n0_; have HO_7 := n1_; have HB := n2_; have BK618 := n3_; have GW618 := n4_; have GE618 := n5_; clear n0_ n1_ n2_ n3_ n4_ n5_; clear hb hbox hg; have hcz38_0 : w37.cell? ⟨gb618, 0, none⟩ = some (.int .i64 0) := (blk_cell BK618.out 0).trans rfl; have hcz38_1 : w37.cell? ⟨gb618, 1, none⟩ = some (.int .i64 0) := (blk_cell BK618.out 1).trans rfl; have hfz38_0 := blk_frozen BK618.out 0; have hfz38_1 := blk_frozen BK618.out 1; have p619 : 0 ≤ (x11_4 : Int) := of_decide_eq_true (by first | (with_reducible assumption) | assumption); have q619 : x11_4 < (t603.length : Int) := of_decide_eq_true (by first | (with_reducible assumption) | assumption); obtain ⟨ad619, e619, hx619_0, hx619_1⟩ := at_T35 (Kd.R_reads' HO_5.out).2.2 x11_4 p619 q619; cases e619; have hn619_0 : ad619.block ≠ gb618 := Kd.own_blk (Kd.R_away HO_5.out (fun _ hk => hk.2)); have hn619_1 : ad619.block ≠ gb618 := Kd.own_blk (Kd.R_away HO_5.out (fun _ hk => hk.2)); replace hx619_0 := (cell_far (p := ⟨gb618, 0, none⟩) (by first | (rw [add_block]; exact hn619_0) | (show (Addr.add _ _).block ≠ _; rw [add_block]; exact hn619_0) | exact hn619_0) (.int .i64 t615)).trans hx619_0; replace hx619_1 := (cell_far (p := ⟨gb618, 0, none⟩) (by first | (rw [add_block]; exact hn619_0) | (show (Addr.add _ _).block ≠ _; rw [add_block]; exact hn619_0) | exact hn619_0) (.int .i64 t615)).trans hx619_1; replace hx619_0 := (cell_far (p := ⟨gb618, 1, none⟩) (by first | (rw [add_block]; exact hn619_1) | (show (Addr.add _ _).block ≠ _; rw [add_block]; exact hn619_1) | exact hn619_1) (.int .i64 t616)).trans hx619_0; replace hx619_1 := (cell_far (p := ⟨gb618, 1, none⟩) (by first | (rw [add_block]; exact hn619_1) | (show (Addr.add _ _).block ≠ _; rw [add_block]; exact hn619_1) | exact hn619_1) (.int .i64 t616)).trans hx619_1; (try have hy619_0 := fun (n_ : Nat) => (show ((((w37.drewN n_).setCell ⟨gb618, 0, none⟩ (.int .i64 t615)).setCell ⟨gb618, 1, none⟩ (.int .i64 t616))).cell? _ = some _ from hx619_0)); (try have hy619_1 := fun (n_ : Nat) => (show ((((w37.drewN n_).setCell ⟨gb618, 0, none⟩ (.int .i64 t615)).setCell ⟨gb618, 1, none⟩ (.int .i64 t616))).cell? _ = some _ from hx619_1)); clear hn619_0; clear hn619_1; replace p619 := eq_true p619; replace q619 := eq_true q619)))
                    go_roundg k4
                    case measure => have := HJ2.out; have := HJ10.out; have := HJ24.out; have := HK4.out; omega
                    case rel => exact ⟨(wrap64 (x11_4 + 1)), (by first | rfl | (simp; done) | (simp [*]; done)), H', ⟨by have := HJ2.out; have := HJ10.out; have := HJ24.out; have := HK4.out; omega⟩, ⟨by (with_reducible repeat (first | apply Kd.R_alloc | apply Kd.R_drewN | apply Kd.R_drew)); exact Kd.R_mono (Kd.R_far (p := ⟨gb618, 1, none⟩) (Kd.R_far (p := ⟨gb618, 0, none⟩) (Kd.R_mono HO_5.out (fun k_ hk => (⟨hk, hk.2⟩ : _ ∧ k_ ≠ gb618))) (fun _ hk => hk.2) (.int .i64 t615)) (fun _ hk => hk.2) (.int .i64 t616)) (fun _ hk => trivial)⟩, ⟨by (with_reducible repeat (first | apply Kd.R_alloc | apply Kd.R_drewN | apply Kd.R_drew)); exact Kd.R_mono (Kd.R_far (p := ⟨gb618, 1, none⟩) (Kd.R_far (p := ⟨gb618, 0, none⟩) (Kd.R_types HO_7.out BK618.out (by decide)) (fun _ hk => hk.2) (.int .i64 t615)) (fun _ hk => hk.2) (.int .i64 t616)) (fun _ hk => trivial)⟩, ⟨by repeat (first | (with_reducible first | exact HB.out | apply below_alloc | apply pw_below_drewN | apply below_drew1 | refine below_set ?_ GE618.out) | exact HB.out)⟩⟩
                  rw [if_neg c30] at H; have c30b0 : decide (x11_4 < (l0.length : Int)) = false := decide_eq_false c30; clear c30; have H' := Aside0.mk H; clear H
                  go_wp2
                  repeat (go_quiet (fail); try go_wp2)
                  go_loopg [14, 15] k4 (fun kq v14 v15 w' => ∃ (x14_5 : Int) (x15_5 : Int), v14 = .int .i64 x14_5 ∧ v15 = .int .i64 x15_5 ∧ Aside0 (droppertop_TopWear.l1 kq l0 l1 t603 t607 x14_5 x15_5 = some r) ∧ Aside0 (kq ≤ k4) ∧ Aside0 (Kd.R k35 35 w' w.heap.size (fun _ => True) (.slice Ao26 t603.length co26) t603) ∧ Aside0 (Kd.R (Kd.int .i64) 3 w' w.heap.size (fun _ => True) v609 t607) ∧ Aside0 (Below w.heap.size w w'))
                  case atStart => exact ⟨(0), (0), (by first | rfl | (simp; done) | (simp [*]; done)), (by first | rfl | (simp; done) | (simp [*]; done)), H', ⟨Nat.le_refl _⟩, ⟨by (with_reducible repeat (first | apply Kd.R_alloc | apply Kd.R_drewN | apply Kd.R_drew)); exact HO_5.out⟩, ⟨by (with_reducible repeat (first | apply Kd.R_alloc | apply Kd.R_drewN | apply Kd.R_drew)); exact HO_7.out⟩, ⟨by repeat (first | (with_reducible first | exact HB.out | apply below_alloc | apply pw_below_drewN | apply below_drew1) | exact HB.out)⟩⟩
                  case round =>
                    clear H'
                    try clear c1
                    try clear c2
                    try clear p2
                    try clear c3
                    try clear c5
                    try clear c6
                    try clear p6
                    try clear q6
                    try clear hx6
                    try clear qi6
                    try clear c14
                    try clear c14b0
                    try clear c14b1
                    try clear c15
                    try clear c15b0
                    try clear c15b1
                    try clear c17
                    try clear c18
                    try clear c18b0
                    try clear c18b1
                    try clear c18b2
                    try clear c19
                    try clear c19b0
                    try clear c19b1
                    try clear c23
                    try clear c28
                    try clear c28b0
                    try clear c28b1
                    try clear c29
                    try clear c30
                    try clear c30b0
                    try clear c32
                    try clear c32b0
                    try clear c32b1
                    try clear c33
                    try clear c33b0
                    try clear c34
                    try clear c34b0
                    try clear c35
                    try clear c35b0
                    try clear hcz38_0
                    try clear hcz38_1
                    try clear hfz38_0
                    try clear hfz38_1
                    try clear hx612_0
                    try clear hx619_0
                    try clear hx619_1
                    try clear p2
                    try clear p6
                    try clear p612
                    try clear p619
                    try clear q6
                    try clear q612
                    try clear q619
                    obtain ⟨x14_5, x15_5, rfl, rfl, HA, HK5, HO_5, HO_7, HB⟩ := hrel
                    cases gk with
                    | zero => exact absurd HA.out (by simp [droppertop_TopWear.l1])
                    | succ k5 =>
                      have H := HA.out; clear HA; simp only [droppertop_TopWear.l1] at H; by_cases c39 : x15_5 < (t607.length : Int)
                      · rw [if_pos c39] at H; have c39b0 : decide (x15_5 < (t607.length : Int)) = true := decide_eq_true c39; clear c39; have HC40 := Aside0.mk H; clear H; obtain ⟨Ao41, co41, eo41⟩ := Kd.R_slice HO_7.out; subst eo41
                        go_upto_if 113 with (fail)
                        repeat (go_quiet (fail); go_upto_if 113 with (fail))
                        go_cut [16] (fun v16 wc => ∃ (kq : Nat) (x16_39 : Int), v16 = .int .i64 x16_39 ∧ Aside0 (droppertop_TopWear.j5 kq l0 l1 t603 t607 x14_5 x15_5 x16_39 = some r) ∧ Aside0 (kq ≤ k5) ∧ Aside0 (Kd.R k35 35 wc w.heap.size (fun _ => True) (.slice Ao26 t603.length co26) t603) ∧ Aside0 (Kd.R (Kd.int .i64) 3 wc w.heap.size (fun _ => True) (.slice Ao41 t607.length co41) t607) ∧ Aside0 (Below w.heap.size w wc))
                        case first => as_aux_lemma =>
                          have H := HC40.out; clear HC40; by_cases c42 : (wrap64 (x15_5 + 1)) < (t607.length : Int); rotate_left
                          · rw [if_neg c42] at H; have c42b0 : decide ((wrap64 (x15_5 + 1)) < (t607.length : Int)) = false := decide_eq_false c42; clear c42
                            (first | rw [c42b0] | (simp only [i64_w, i32_w]; rw [c42b0]) | skip)
                            have H' := Aside0.mk H; clear H
                            go_wp2
                            repeat (go_quiet (fail); try go_wp2)
                            go_meet
                            case rel => exact ⟨_, ((l0.length : Int)), (by first | rfl | (simp; done) | (simp [*]; done)), H', ⟨by have := HJ2.out; have := HJ10.out; have := HJ24.out; have := HK4.out; have := HK5.out; first | omega | exact Nat.le_refl _⟩, ⟨by (with_reducible repeat (first | apply Kd.R_alloc | apply Kd.R_drewN | apply Kd.R_drew)); exact HO_5.out⟩, ⟨by (with_reducible repeat (first | apply Kd.R_alloc | apply Kd.R_drewN | apply Kd.R_drew)); exact HO_7.out⟩, ⟨by repeat (first | (with_reducible first | exact HB.out | apply below_alloc | apply pw_below_drewN | apply below_drew1) | exact HB.out)⟩⟩
                          rw [if_pos c42] at H; have c42b0 : decide ((wrap64 (x15_5 + 1)) < (t607.length : Int)) = true := decide_eq_true c42; clear c42
                          (first | rw [c42b0] | (simp only [i64_w, i32_w]; rw [c42b0]) | skip)
                          obtain ⟨ji43, hji43⟩ : ∃ j_ : Int, (wrap64 (x15_5 + 1)) = j_ := ⟨_, rfl⟩
                          replace H : (if 0 ≤ (ji43) then (droppertop_TopWear.j5 k5 l0 l1 t603 t607 x14_5 x15_5 (rd t607 (ji43))) else (none)) = some r := by first | (rw [hji43] at H; exact H) | (simp only [hji43] at H ⊢; exact H)
                          (try rw [hji43] at c42b0)
                          have hji43w : (IntKind.i64.wrap (x15_5 + 1)) = ji43 := (i64_w _).trans hji43; by_cases c44 : 0 ≤ (ji43); rotate_left
                          · rw [if_neg c44] at H
                            exact absurd H (by simp)
                          rw [if_pos c44] at H; have c44b0 : decide (0 ≤ (ji43)) = true := decide_eq_true c44; clear c44; have H' := Aside0.mk H; clear H
                          have p620 : 0 ≤ ((ji43) : Int) := of_decide_eq_true (by first | (with_reducible assumption) | assumption)
                          have q620 : (ji43) < (t607.length : Int) := of_decide_eq_true (by first | (with_reducible assumption) | assumption)
                          obtain ⟨ad620, e620, hx620_0⟩ := Kd.at_int (Kd.R_reads' HO_7.out).2.2 (ji43) p620 q620
                          cases e620
                          replace p620 := eq_true p620; replace q620 := eq_true q620
                          go_wp2
                          repeat (go_quiet (fail); try go_wp2)
                          go_meet
                          case rel => exact ⟨_, (rd t607 (ji43)), (by first | rfl | (simp; done) | (simp only [← hji43] <;> (first | rfl | simp)) | (simp [*]; done)), H', ⟨by have := HJ2.out; have := HJ10.out; have := HJ24.out; have := HK4.out; have := HK5.out; first | omega | exact Nat.le_refl _⟩, ⟨by (with_reducible repeat (first | apply Kd.R_alloc | apply Kd.R_drewN | apply Kd.R_drew)); exact HO_5.out⟩, ⟨by (with_reducible repeat (first | apply Kd.R_alloc | apply Kd.R_drewN | apply Kd.R_drew)); exact HO_7.out⟩, ⟨by repeat (first | (with_reducible first | exact HB.out | apply below_alloc | apply pw_below_drewN | apply below_drew1) | exact HB.out)⟩⟩
                        case rest => as_aux_lemma =>
                          clear HC40
                          try clear c1
                          try clear c2
                          try clear p2
                          try clear c3
                          try clear c4
                          try clear c5
                          try clear c6
                          try clear p6
                          try clear q6
                          try clear hx6
                          try clear qi6
                          try clear c14
                          try clear c14b0
                          try clear c14b1
                          try clear c15
                          try clear c15b0
                          try clear c15b1
                          try clear c17
                          try clear c18
                          try clear c18b0
                          try clear c18b1
                          try clear c18b2
                          try clear c19
                          try clear c19b0
                          try clear c19b1
                          try clear c23
                          try clear c28
                          try clear c28b0
                          try clear c28b1
                          try clear c29
                          try clear c30
                          try clear c30b0
                          try clear c32
                          try clear c32b0
                          try clear c32b1
                          try clear c33
                          try clear c33b0
                          try clear c34
                          try clear c34b0
                          try clear c35
                          try clear c35b0
                          try clear c39
                          try clear c39b0
                          try clear c42
                          try clear c42b0
                          try clear c44
                          try clear c44b0
                          try clear hcz38_0
                          try clear hcz38_1
                          try clear hfz38_0
                          try clear hfz38_1
                          try clear hx612_0
                          try clear hx619_0
                          try clear hx619_1
                          try clear hx620_0
                          try clear p2
                          try clear p6
                          try clear p612
                          try clear p619
                          try clear p620
                          try clear q6
                          try clear q612
                          try clear q619
                          try clear q620
                          obtain ⟨kq, x16_39, rfl, HA, HJ39, HO_5, HO_7, HB⟩ := hcut
                          cases kq with
                          | zero => exact absurd HA.out (by simp [droppertop_TopWear.j5])
                          | succ kj39 =>
                            have H := HA.out; clear HA; simp only [droppertop_TopWear.j5] at H; have HC45 := Aside0.mk H; clear H
                            go_upto_region 23 with (fail)
                            repeat (go_quiet (fail); go_upto_region 23 with (fail))
                            go_cut [137] (fun v137 wc => ∃ (kq : Nat) (x137_44 : Bool), v137 = .bool x137_44 ∧ Aside0 (droppertop_TopWear.j6 kq l0 l1 t603 t607 x14_5 x15_5 x16_39 x137_44 = some r) ∧ Aside0 (kq ≤ kj39) ∧ Aside0 (Kd.R k35 35 wc w.heap.size (fun _ => True) (.slice Ao26 t603.length co26) t603) ∧ Aside0 (Kd.R (Kd.int .i64) 3 wc w.heap.size (fun _ => True) (.slice Ao41 t607.length co41) t607) ∧ Aside0 (Below w.heap.size w wc))
                            case first => as_aux_lemma =>
                              have H := HC45.out; clear HC45; by_cases c46 : 0 ≤ x15_5; rotate_left
                              · rw [if_neg c46] at H
                                exact absurd H (by simp)
                              rw [if_pos c46] at H; have c46b0 : decide (0 ≤ x15_5) = true := decide_eq_true c46; clear c46
                              (first | rw [c46b0] | (simp only [i64_w, i32_w]; rw [c46b0]) | skip)
                              by_cases c47 : x15_5 < (t607.length : Int); rotate_left
                              · rw [if_neg c47] at H
                                exact absurd H (by simp)
                              rw [if_pos c47] at H; have c47b0 : decide (x15_5 < (t607.length : Int)) = true := decide_eq_true c47; clear c47; by_cases c48 : (rd t607 x15_5) < 0
                              · rw [if_pos c48] at H; have c48b0 : decide ((rd t607 x15_5) < 0) = true := decide_eq_true c48; clear c48; exact absurd (H.trans (congrArg some hT)) (droppertop_TopWear.j6_no _ _ _ _ _ _ _ _)
                              rw [if_neg c48] at H; have c48b0 : decide ((rd t607 x15_5) < 0) = false := decide_eq_false c48; clear c48; by_cases c49 : x16_39 ≤ (rd t607 x15_5)
                              · rw [if_pos c49] at H; have c49b0 : decide (x16_39 ≤ (rd t607 x15_5)) = true := decide_eq_true c49; clear c49; exact absurd (H.trans (congrArg some hT)) (droppertop_TopWear.j6_no _ _ _ _ _ _ _ _)
                              rw [if_neg c49] at H; have c49b0 : decide (x16_39 ≤ (rd t607 x15_5)) = false := decide_eq_false c49; clear c49; have H' := Aside0.mk H; clear H
                              have p621 : 0 ≤ (x15_5 : Int) := of_decide_eq_true (by first | (with_reducible assumption) | assumption)
                              have q621 : x15_5 < (t607.length : Int) := of_decide_eq_true (by first | (with_reducible assumption) | assumption)
                              obtain ⟨ad621, e621, hx621_0⟩ := Kd.at_int (Kd.R_reads' HO_7.out).2.2 x15_5 p621 q621
                              cases e621
                              replace p621 := eq_true p621; replace q621 := eq_true q621
                              have p622 : 0 ≤ (x15_5 : Int) := of_decide_eq_true (by first | (with_reducible assumption) | assumption)
                              have q622 : x15_5 < (t607.length : Int) := of_decide_eq_true (by first | (with_reducible assumption) | assumption)
                              obtain ⟨ad622, e622, hx622_0⟩ := Kd.at_int (Kd.R_reads' HO_7.out).2.2 x15_5 p622 q622
                              obtain rfl : ad621 = ad622 := (by injection e622)
                              replace p622 := eq_true p622; replace q622 := eq_true q622
                              go_wp2
                              repeat (go_quiet (fail); try go_wp2)
                              go_meet
                              case rel => exact ⟨_, (decide (x16_39 > (l0.length : Int))), (by first | rfl | (simp; done) | (simp [*]; done)), H', ⟨by have := HJ2.out; have := HJ10.out; have := HJ24.out; have := HK4.out; have := HK5.out; have := HJ39.out; first | omega | exact Nat.le_refl _⟩, ⟨by (with_reducible repeat (first | apply Kd.R_alloc | apply Kd.R_drewN | apply Kd.R_drew)); exact HO_5.out⟩, ⟨by (with_reducible repeat (first | apply Kd.R_alloc | apply Kd.R_drewN | apply Kd.R_drew)); exact HO_7.out⟩, ⟨by repeat (first | (with_reducible first | exact HB.out | apply below_alloc | apply pw_below_drewN | apply below_drew1) | exact HB.out)⟩⟩
                            case rest => as_aux_lemma =>
                              clear HC45
                              try clear c1
                              try clear c2
                              try clear p2
                              try clear c3
                              try clear c4
                              try clear c5
                              try clear c6
                              try clear p6
                              try clear q6
                              try clear hx6
                              try clear qi6
                              try clear c14
                              try clear c14b0
                              try clear c14b1
                              try clear c15
                              try clear c15b0
                              try clear c15b1
                              try clear c17
                              try clear c18
                              try clear c18b0
                              try clear c18b1
                              try clear c18b2
                              try clear c19
                              try clear c19b0
                              try clear c19b1
                              try clear c23
                              try clear c28
                              try clear c28b0
                              try clear c28b1
                              try clear c29
                              try clear c30
                              try clear c30b0
                              try clear c32
                              try clear c32b0
                              try clear c32b1
                              try clear c33
                              try clear c33b0
                              try clear c34
                              try clear c34b0
                              try clear c35
                              try clear c35b0
                              try clear c39
                              try clear c39b0
                              try clear c42
                              try clear c42b0
                              try clear c44
                              try clear c44b0
                              try clear c46
                              try clear c46b0
                              try clear c47
                              try clear c47b0
                              try clear c48
                              try clear c48b0
                              try clear c49
                              try clear c49b0
                              try clear hcz38_0
                              try clear hcz38_1
                              try clear hfz38_0
                              try clear hfz38_1
                              try clear hx612_0
                              try clear hx619_0
                              try clear hx619_1
                              try clear hx620_0
                              try clear hx621_0
                              try clear hx622_0
                              try clear p2
                              try clear p6
                              try clear p612
                              try clear p619
                              try clear p620
                              try clear p621
                              try clear p622
                              try clear q6
                              try clear q612
                              try clear q619
                              try clear q620
                              try clear q621
                              try clear q622
                              obtain ⟨kq, x137_44, rfl, HA, HJ44, HO_5, HO_7, HB⟩ := hcut
                              cases kq with
                              | zero => exact absurd HA.out (by simp [droppertop_TopWear.j6])
                              | succ kj44 =>
                                have H := HA.out; clear HA; simp only [droppertop_TopWear.j6] at H; by_cases c50 : x137_44 = true
                                · subst c50; rw [if_pos rfl] at H
                                  exact absurd (hT.symm.trans (Option.some.inj H).symm) (by decide)
                                replace c50 := Bool.eq_false_iff.mpr c50; subst c50; rw [if_neg (show ¬ (false = true) by decide)] at H; by_cases c51 : 0 ≤ x15_5; rotate_left
                                · rw [if_neg c51] at H
                                  exact absurd H (by simp)
                                rw [if_pos c51] at H; have c51b0 : decide (0 ≤ x15_5) = true := decide_eq_true c51; clear c51; by_cases c52 : x15_5 < (t607.length : Int); rotate_left
                                · rw [if_neg c52] at H
                                  exact absurd H (by simp)
                                rw [if_pos c52] at H; have c52b0 : decide (x15_5 < (t607.length : Int)) = true := decide_eq_true c52; clear c52; replace H := Option.bind_eq_some_iff.mp H; obtain ⟨⟨t624, t625, t626⟩, A530, H⟩ := H; (try dsimp only at H); have A53 := Aside0.mk A530; clear A530; by_cases c54 : t626 = 0; rotate_left
                                · rw [if_neg c54] at H; have c54b0 : (t626 == 0) = false := beq_eq_false_iff_ne.mpr c54; have c54b1 : (t626 != 0) = true := bne_iff_ne.mpr c54
                                  exact absurd (hT.symm.trans (Option.some.inj H).symm) (by decide)
                                rw [if_pos c54] at H; have c54b0 : (t626 == 0) = true := beq_iff_eq.mpr c54; have c54b1 : (t626 != 0) = false := bne_eq_false_iff_eq.mpr c54; clear c54; by_cases c55 : 0 ≤ (rd t607 x15_5); rotate_left
                                · rw [if_neg c55] at H
                                  exact absurd H (by simp)
                                rw [if_pos c55] at H; have c55b0 : decide (0 ≤ (rd t607 x15_5)) = true := decide_eq_true c55; clear c55; by_cases c56 : (rd t607 x15_5) < (t603.length : Int); rotate_left
                                · rw [if_neg c56] at H
                                  exact absurd H (by simp)
                                rw [if_pos c56] at H; have c56b0 : decide ((rd t607 x15_5) < (t603.length : Int)) = true := decide_eq_true c56; clear c56
                                by_cases c57 : (!(t624 == ((rd_T35 t603 (rd t607 x15_5)).f0)) || (!(t625 == ((rd_T35 t603 (rd t607 x15_5)).f1)))) = true
                                · rw [if_pos c57] at H
                                  have c57b0 : (!(t624 == ((rd_T35 t603 (rd t607 x15_5)).f0)) || (!(t625 == ((rd_T35 t603 (rd t607 x15_5)).f1)))) = true := c57
                                  clear c57
                                  exact absurd (hT.symm.trans (Option.some.inj H).symm) (by decide)
                                rw [if_neg c57] at H
                                have c57b0 : (!(t624 == ((rd_T35 t603 (rd t607 x15_5)).f0)) || (!(t625 == ((rd_T35 t603 (rd t607 x15_5)).f1)))) = false := by simpa using c57
                                clear c57; obtain ⟨ji58, hji58⟩ : ∃ j_ : Int, (wrap64 (x16_39 - 1)) = j_ := ⟨_, rfl⟩
                                replace H : (if 0 ≤ (ji58) then (if (ji58) < (t603.length : Int) then (if (!(((rd_T35 t603 (ji58)).f0) == t624) || (!(((rd_T35 t603 (ji58)).f1) == t625))) = true then (some false) else (if t625 < 1 then (some false) else (if t625 = 0 then (none) else (if (Int.tmod (wrap64 (x16_39 - (rd t607 x15_5))) t625) = 0 then (droppertop_TopWear.l1 kj44 l0 l1 t603 t607 (wrap64 (x14_5 + (wrap64 (t624 * (wrap64 (Int.tdiv (wrap64 (x16_39 - (rd t607 x15_5))) t625)))))) (wrap64 (x15_5 + 1))) else (some false))))) else (none)) else (none)) = some r := by first | (rw [hji58] at H; exact H) | (simp only [hji58] at H ⊢; exact H)
                                (try rw [hji58] at A53)
                                have hji58w : (IntKind.i64.wrap (x16_39 - 1)) = ji58 := (i64_w _).trans hji58; by_cases c59 : 0 ≤ (ji58); rotate_left
                                · rw [if_neg c59] at H
                                  exact absurd H (by simp)
                                rw [if_pos c59] at H; have c59b0 : decide (0 ≤ (ji58)) = true := decide_eq_true c59; clear c59; by_cases c60 : (ji58) < (t603.length : Int); rotate_left
                                · rw [if_neg c60] at H
                                  exact absurd H (by simp)
                                rw [if_pos c60] at H; have c60b0 : decide ((ji58) < (t603.length : Int)) = true := decide_eq_true c60; clear c60
                                by_cases c61 : (!(((rd_T35 t603 (ji58)).f0) == t624) || (!(((rd_T35 t603 (ji58)).f1) == t625))) = true
                                · rw [if_pos c61] at H
                                  have c61b0 : (!(((rd_T35 t603 (ji58)).f0) == t624) || (!(((rd_T35 t603 (ji58)).f1) == t625))) = true := c61
                                  clear c61
                                  exact absurd (hT.symm.trans (Option.some.inj H).symm) (by decide)
                                rw [if_neg c61] at H
                                have c61b0 : (!(((rd_T35 t603 (ji58)).f0) == t624) || (!(((rd_T35 t603 (ji58)).f1) == t625))) = false := by simpa using c61
                                clear c61; by_cases c62 : t625 < 1
                                · rw [if_pos c62] at H; have c62b0 : decide (t625 < 1) = true := decide_eq_true c62; clear c62
                                  exact absurd (hT.symm.trans (Option.some.inj H).symm) (by decide)
                                rw [if_neg c62] at H; have c62b0 : decide (t625 < 1) = false := decide_eq_false c62; clear c62; by_cases c63 : t625 = 0
                                · rw [if_pos c63] at H
                                  exact absurd H (by simp)
                                rw [if_neg c63] at H; have c63b0 : (t625 == 0) = false := beq_eq_false_iff_ne.mpr c63; have c63b1 : (t625 != 0) = true := bne_iff_ne.mpr c63; by_cases c64 : (Int.tmod (wrap64 (x16_39 - (rd t607 x15_5))) t625) = 0; rotate_left
                                · rw [if_neg c64] at H; have c64b0 : ((Int.tmod (wrap64 (x16_39 - (rd t607 x15_5))) t625) == 0) = false := beq_eq_false_iff_ne.mpr c64; have c64b1 : ((Int.tmod (wrap64 (x16_39 - (rd t607 x15_5))) t625) != 0) = true := bne_iff_ne.mpr c64
                                  exact absurd (hT.symm.trans (Option.some.inj H).symm) (by decide)
                                rw [if_pos c64] at H; have c64b0 : ((Int.tmod (wrap64 (x16_39 - (rd t607 x15_5))) t625) == 0) = true := beq_iff_eq.mpr c64; have c64b1 : ((Int.tmod (wrap64 (x16_39 - (rd t607 x15_5))) t625) != 0) = false := bne_eq_false_iff_eq.mpr c64; clear c64; have H' := Aside0.mk H; clear H
                                have p623 : 0 ≤ (x15_5 : Int) := of_decide_eq_true (by first | (with_reducible assumption) | assumption)
                                have q623 : x15_5 < (t607.length : Int) := of_decide_eq_true (by first | (with_reducible assumption) | assumption)
                                obtain ⟨ad623, e623, hx623_0⟩ := Kd.at_int (Kd.R_reads' HO_7.out).2.2 x15_5 p623 q623
                                cases e623
                                replace p623 := eq_true p623; replace q623 := eq_true q623
                                go_wp2_with (first | (go_at_call 11; (with_reducible refine (wear_Mean.calls kj44 _ _ l0 (rd t607 x15_5) ji58 t624 t625 t626 _ ?side1 ?side2 A53.out).mono ?_); (case side1 => repeat (first | exact (Kd.C_below HR0.out HB.out) | (with_reducible refine Kd.C_alloc ?_ _) | (with_reducible refine Kd.C_drewN ?_ _) | (with_reducible refine Kd.C_drew ?_))); (case side2 => exact HC0.out); rintro e w65 ⟨rfl, hb⟩; have n0_ := Aside0.mk (Kd.R_below (by (with_reducible repeat (first | apply Kd.R_alloc | apply Kd.R_drewN | apply Kd.R_drew)); exact HO_5.out) hb); have n1_ := Aside0.mk (Kd.R_below (by (with_reducible repeat (first | apply Kd.R_alloc | apply Kd.R_drewN | apply Kd.R_drew)); exact HO_7.out) hb); have n2_ := Aside0.mk (below_step (by repeat (first | (with_reducible first | exact HB.out | apply below_alloc | apply pw_below_drewN | apply below_drew1) | exact HB.out)) hb); clear HO_5; clear HO_7; clear HB; have HO_5 := n0_; have HO_7 := n1_; have HB := n2_; clear n0_ n1_ n2_; (try clear hb); (try clear hb2); (try clear hk); (try clear hi)) | ((with_reducible refine gate_dst (N := 17) rfl ?_); (try (refine gate_guard (by rfl) ?_; dsimp only)); refine box_event ?hg (N := 17) ?hd (cs := #[.int .i64 0, .int .i64 0]) (t := 35) ?hr ?_; (case hd => rfl); (case hg => rfl); (case hr => first | (go_simp; done) | (go_simp; rfl)); intro gb627 hg w66 hbox hb; have n0_ := Aside0.mk (Kd.R_below (Kd.R_elderB (by (with_reducible repeat (first | apply Kd.R_alloc | apply Kd.R_drewN | apply Kd.R_drew)); exact HO_5.out) gb627 (Nat.le_of_eq hg.symm)) hb); have n1_ := Aside0.mk (Kd.R_below (by (with_reducible repeat (first | apply Kd.R_alloc | apply Kd.R_drewN | apply Kd.R_drew)); exact HO_7.out) hb); have n2_ := Aside0.mk (below_step (by repeat (first | (with_reducible first | exact HB.out | apply below_alloc | apply pw_below_drewN | apply below_drew1) | exact HB.out)) hb); have n3_ := Aside0.mk (hbox); have n4_ := Aside0.mk ((by rw [hg]; exact (below_size (by repeat (first | (with_reducible first | exact HB.out | apply below_alloc | apply pw_below_drewN | apply below_drew1) | exact HB.out))) : w.heap.size ≤ gb627)); have n5_ := Aside0.mk ((by rw [hg]; exact (below_size (by repeat (first | (with_reducible first | exact HB.out | apply below_alloc | apply pw_below_drewN | apply below_drew1) | exact HB.out))) : w.heap.size ≤ gb627)); clear HO_5; clear HO_7; clear HB; have HO_5 := n0_; have HO_7 := n1_; have HB := n2_; have BK627 := n3_; have GW627 := n4_; have GE627 := n5_; clear n0_ n1_ n2_ n3_ n4_ n5_; clear hb hbox hg; have hcz67_0 : w66.cell? ⟨gb627, 0, none⟩ = some (.int .i64 0) := (blk_cell BK627.out 0).trans rfl; have hcz67_1 : w66.cell? ⟨gb627, 1, none⟩ = some (.int .i64 0) := (blk_cell BK627.out 1).trans rfl; have hfz67_0 := blk_frozen BK627.out 0; have hfz67_1 := blk_frozen BK627.out 1; have p628 : 0 ≤ (x15_5 : Int) := of_decide_eq_true (by first | (with_reducible assumption) | assumption); have q628 : x15_5 < (t607.length : Int) := of_decide_eq_true (by first | (with_reducible assumption) | assumption); obtain ⟨ad628, e628, hx628_0⟩ := Kd.at_int (Kd.R_reads' HO_7.out).2.2 x15_5 p628 q628; obtain rfl : ad623 = ad628 := (by injection e628); have hn628_0 : ad623.block ≠ gb627 := Kd.own_blk (Kd.R_ne HO_7.out BK627.out (by decide)); have hn628_1 : ad623.block ≠ gb627 := Kd.own_blk (Kd.R_ne HO_7.out BK627.out (by decide)); replace hx628_0 := (cell_far (p := ⟨gb627, 0, none⟩) (by first | (rw [add_block]; exact hn628_0) | (show (Addr.add _ _).block ≠ _; rw [add_block]; exact hn628_0) | exact hn628_0) (.int .i64 t624)).trans hx628_0; replace hx628_0 := (cell_far (p := ⟨gb627, 1, none⟩) (by first | (rw [add_block]; exact hn628_1) | (show (Addr.add _ _).block ≠ _; rw [add_block]; exact hn628_1) | exact hn628_1) (.int .i64 t625)).trans hx628_0; (try have hy628_0 := fun (n_ : Nat) => (show ((((w66.drewN n_).setCell ⟨gb627, 0, none⟩ (.int .i64 t624)).setCell ⟨gb627, 1, none⟩ (.int .i64 t625))).cell? _ = some _ from hx628_0)); clear hn628_0; clear hn628_1; replace p628 := eq_true p628; replace q628 := eq_true q628; have p629 : 0 ≤ ((rd t607 x15_5) : Int) := of_decide_eq_true (by first | (with_reducible assumption) | assumption); have q629 : (rd t607 x15_5) < (t603.length : Int) := of_decide_eq_true (by first | (with_reducible assumption) | assumption); obtain ⟨ad629, e629, hx629_0, hx629_1⟩ := at_T35 (Kd.R_reads' HO_5.out).2.2 (rd t607 x15_5) p629 q629; cases e629; have hn629_0 : ad629.block ≠ gb627 := Kd.own_blk (Kd.R_away HO_5.out (fun _ hk => hk.2)); have hn629_1 : ad629.block ≠ gb627 := Kd.own_blk (Kd.R_away HO_5.out (fun _ hk => hk.2)); replace hx629_0 := (cell_far (p := ⟨gb627, 0, none⟩) (by first | (rw [add_block]; exact hn629_0) | (show (Addr.add _ _).block ≠ _; rw [add_block]; exact hn629_0) | exact hn629_0) (.int .i64 t624)).trans hx629_0; replace hx629_1 := (cell_far (p := ⟨gb627, 0, none⟩) (by first | (rw [add_block]; exact hn629_0) | (show (Addr.add _ _).block ≠ _; rw [add_block]; exact hn629_0) | exact hn629_0) (.int .i64 t624)).trans hx629_1; replace hx629_0 := (cell_far (p := ⟨gb627, 1, none⟩) (by first | (rw [add_block]; exact hn629_1) | (show (Addr.add _ _).block ≠ _; rw [add_block]; exact hn629_1) | exact hn629_1) (.int .i64 t625)).trans hx629_0; replace hx629_1 := (cell_far (p := ⟨gb627, 1, none⟩) (by first | (rw [add_block]; exact hn629_1) | (show (Addr.add _ _).block ≠ _; rw [add_block]; exact hn629_1) | exact hn629_1) (.int .i64 t625)).trans hx629_1; (try have hy629_0 := fun (n_ : Nat) => (show ((((w66.drewN n_).setCell ⟨gb627, 0, none⟩ (.int .i64 t624)).setCell ⟨gb627, 1, none⟩ (.int .i64 t625))).cell? _ = some _ from hx629_0)); (try have hy629_1 := fun (n_ : Nat) => (show ((((w66.drewN n_).setCell ⟨gb627, 0, none⟩ (.int .i64 t624)).setCell ⟨gb627, 1, none⟩ (.int .i64 t625))).cell? _ = some _ from hx629_1)); clear hn629_0; clear hn629_1; replace p629 := eq_true p629; replace q629 := eq_true q629; have p630 : 0 ≤ ((ji58) : Int) := of_decide_eq_true (by first | (with_reducible assumption) | assumption); have q630 : (ji58) < (t603.length : Int) := of_decide_eq_true (by first | (with_reducible assumption) | assumption); obtain ⟨ad630, e630, hx630_0, hx630_1⟩ := at_T35 (Kd.R_reads' HO_5.out).2.2 (ji58) p630 q630; obtain rfl : ad629 = ad630 := (by injection e630); have hn630_0 : ad629.block ≠ gb627 := Kd.own_blk (Kd.R_away HO_5.out (fun _ hk => hk.2)); have hn630_1 : ad629.block ≠ gb627 := Kd.own_blk (Kd.R_away HO_5.out (fun _ hk => hk.2)); replace hx630_0 := (cell_far (p := ⟨gb627, 0, none⟩) (by first | (rw [add_block]; exact hn630_0) | (show (Addr.add _ _).block ≠ _; rw [add_block]; exact hn630_0) | exact hn630_0) (.int .i64 t624)).trans hx630_0; replace hx630_1 := (cell_far (p := ⟨gb627, 0, none⟩) (by first | (rw [add_block]; exact hn630_0) | (show (Addr.add _ _).block ≠ _; rw [add_block]; exact hn630_0) | exact hn630_0) (.int .i64 t624)).trans hx630_1; replace hx630_0 := (cell_far (p := ⟨gb627, 1, none⟩) (by first | (rw [add_block]; exact hn630_1) | (show (Addr.add _ _).block ≠ _; rw [add_block]; exact hn630_1) | exact hn630_1) (.int .i64 t625)).trans hx630_0; replace hx630_1 := (cell_far (p := ⟨gb627, 1, none⟩) (by first | (rw [add_block]; exact hn630_1) | (show (Addr.add _ _).block ≠ _; rw [add_block]; exact hn630_1) | exact hn630_1) (.int .i64 t625)).trans hx630_1; (try have hy630_0 := fun (n_ : Nat) => (show ((((w66.drewN n_).setCell ⟨gb627, 0, none⟩ (.int .i64 t624)).setCell ⟨gb627, 1, none⟩ (.int .i64 t625))).cell? _ = some _ from hx630_0)); (try have hy630_1 := fun (n_ : Nat) => (show ((((w66.drewN n_).setCell ⟨gb627, 0, none⟩ (.int .i64 t624)).setCell ⟨gb627, 1, none⟩ (.int .i64 t625))).cell? _ = some _ from hx630_1)); clear hn630_0; clear hn630_1; replace p630 := eq_true p630; replace q630 := eq_true q630; have p631 : 0 ≤ (x15_5 : Int) := of_decide_eq_true (by first | (with_reducible assumption) | assumption); have q631 : x15_5 < (t607.length : Int) := of_decide_eq_true (by first | (with_reducible assumption) | assumption); obtain ⟨ad631, e631, hx631_0⟩ := Kd.at_int (Kd.R_reads' HO_7.out).2.2 x15_5 p631 q631; obtain rfl : ad623 = ad631 := (by injection e631); have hn631_0 : ad623.block ≠ gb627 := Kd.own_blk (Kd.R_ne HO_7.out BK627.out (by decide)); have hn631_1 : ad623.block ≠ gb627 := Kd.own_blk (Kd.R_ne HO_7.out BK627.out (by decide)); replace hx631_0 := (cell_far (p := ⟨gb627, 0, none⟩) (by first | (rw [add_block]; exact hn631_0) | (show (Addr.add _ _).block ≠ _; rw [add_block]; exact hn631_0) | exact hn631_0) (.int .i64 t624)).trans hx631_0; replace hx631_0 := (cell_far (p := ⟨gb627, 1, none⟩) (by first | (rw [add_block]; exact hn631_1) | (show (Addr.add _ _).block ≠ _; rw [add_block]; exact hn631_1) | exact hn631_1) (.int .i64 t625)).trans hx631_0; (try have hy631_0 := fun (n_ : Nat) => (show ((((w66.drewN n_).setCell ⟨gb627, 0, none⟩ (.int .i64 t624)).setCell ⟨gb627, 1, none⟩ (.int .i64 t625))).cell? _ = some _ from hx631_0)); clear hn631_0; clear hn631_1; replace p631 := eq_true p631; replace q631 := eq_true q631; have p632 : 0 ≤ (x15_5 : Int) := of_decide_eq_true (by first | (with_reducible assumption) | assumption); have q632 : x15_5 < (t607.length : Int) := of_decide_eq_true (by first | (with_reducible assumption) | assumption); obtain ⟨ad632, e632, hx632_0⟩ := Kd.at_int (Kd.R_reads' HO_7.out).2.2 x15_5 p632 q632; obtain rfl : ad623 = ad632 := (by injection e632); have hn632_0 : ad623.block ≠ gb627 := Kd.own_blk (Kd.R_ne HO_7.out BK627.out (by decide)); have hn632_1 : ad623.block ≠ gb627 := Kd.own_blk (Kd.R_ne HO_7.out BK627.out (by decide)); replace hx632_0 := (cell_far (p := ⟨gb627, 0, none⟩) (by first | (rw [add_block]; exact hn632_0) | (show (Addr.add _ _).block ≠ _; rw [add_block]; exact hn632_0) | exact hn632_0) (.int .i64 t624)).trans hx632_0; replace hx632_0 := (cell_far (p := ⟨gb627, 1, none⟩) (by first | (rw [add_block]; exact hn632_1) | (show (Addr.add _ _).block ≠ _; rw [add_block]; exact hn632_1) | exact hn632_1) (.int .i64 t625)).trans hx632_0; (try have hy632_0 := fun (n_ : Nat) => (show ((((w66.drewN n_).setCell ⟨gb627, 0, none⟩ (.int .i64 t624)).setCell ⟨gb627, 1, none⟩ (.int .i64 t625))).cell? _ = some _ from hx632_0)); clear hn632_0; clear hn632_1; replace p632 := eq_true p632; replace q632 := eq_true q632))
                                repeat (go_quiet (first | (go_at_call 11; (with_reducible refine (wear_Mean.calls kj44 _ _ l0 (rd t607 x15_5) ji58 t624 t625 t626 _ ?side1 ?side2 A53.out).mono ?_); (case side1 => repeat (first | exact (Kd.C_below HR0.out HB.out) | (with_reducible refine Kd.C_alloc ?_ _) | (with_reducible refine Kd.C_drewN ?_ _) | (with_reducible refine Kd.C_drew ?_))); (case side2 => exact HC0.out); rintro e w65 ⟨rfl, hb⟩; have n0_ := Aside0.mk (Kd.R_below (by (with_reducible repeat (first | apply Kd.R_alloc | apply Kd.R_drewN | apply Kd.R_drew)); exact HO_5.out) hb); have n1_ := Aside0.mk (Kd.R_below (by (with_reducible repeat (first | apply Kd.R_alloc | apply Kd.R_drewN | apply Kd.R_drew)); exact HO_7.out) hb); have n2_ := Aside0.mk (below_step (by repeat (first | (with_reducible first | exact HB.out | apply below_alloc | apply pw_below_drewN | apply below_drew1) | exact HB.out)) hb); clear HO_5; clear HO_7; clear HB; have HO_5 := n0_; have HO_7 := n1_; have HB := n2_; clear n0_ n1_ n2_; (try clear hb); (try clear hb2); (try clear hk); (try clear hi)) | ((with_reducible refine gate_dst (N := 17) rfl ?_); (try (refine gate_guard (by rfl) ?_; dsimp only)); refine box_event ?hg (N := 17) ?hd (cs := #[.int .i64 0, .int .i64 0]) (t := 35) ?hr ?_; (case hd => rfl); (case hg => rfl); (case hr => first | (go_simp; done) | (go_simp; rfl)); intro gb627 hg w66 hbox hb; have n0_ := Aside0.mk (Kd.R_below (Kd.R_elderB (by (with_reducible repeat (first | apply Kd.R_alloc | apply Kd.R_drewN | apply Kd.R_drew)); exact HO_5.out) gb627 (Nat.le_of_eq hg.symm)) hb); have n1_ := Aside0.mk (Kd.R_below (by (with_reducible repeat (first | apply Kd.R_alloc | apply Kd.R_drewN | apply Kd.R_drew)); exact HO_7.out) hb); have n2_ := Aside0.mk (below_step (by repeat (first | (with_reducible first | exact HB.out | apply below_alloc | apply pw_below_drewN | apply below_drew1) | exact HB.out)) hb); have n3_ := Aside0.mk (hbox); have n4_ := Aside0.mk ((by rw [hg]; exact (below_size (by repeat (first | (with_reducible first | exact HB.out | apply below_alloc | apply pw_below_drewN | apply below_drew1) | exact HB.out))) : w.heap.size ≤ gb627)); have n5_ := Aside0.mk ((by rw [hg]; exact (below_size (by repeat (first | (with_reducible first | exact HB.out | apply below_alloc | apply pw_below_drewN | apply below_drew1) | exact HB.out))) : w.heap.size ≤ gb627)); clear HO_5; clear HO_7; clear HB; have HO_5 := n0_; have HO_7 := n1_; have HB := n2_; have BK627 := n3_; have GW627 := n4_; have GE627 := n5_; clear n0_ n1_ n2_ n3_ n4_ n5_; clear hb hbox hg; have hcz67_0 : w66.cell? ⟨gb627, 0, none⟩ = some (.int .i64 0) := (blk_cell BK627.out 0).trans rfl; have hcz67_1 : w66.cell? ⟨gb627, 1, none⟩ = some (.int .i64 0) := (blk_cell BK627.out 1).trans rfl; have hfz67_0 := blk_frozen BK627.out 0; have hfz67_1 := blk_frozen BK627.out 1; have p628 : 0 ≤ (x15_5 : Int) := of_decide_eq_true (by first | (with_reducible assumption) | assumption); have q628 : x15_5 < (t607.length : Int) := of_decide_eq_true (by first | (with_reducible assumption) | assumption); obtain ⟨ad628, e628, hx628_0⟩ := Kd.at_int (Kd.R_reads' HO_7.out).2.2 x15_5 p628 q628; obtain rfl : ad623 = ad628 := (by injection e628); have hn628_0 : ad623.block ≠ gb627 := Kd.own_blk (Kd.R_ne HO_7.out BK627.out (by decide)); have hn628_1 : ad623.block ≠ gb627 := Kd.own_blk (Kd.R_ne HO_7.out BK627.out (by decide)); replace hx628_0 := (cell_far (p := ⟨gb627, 0, none⟩) (by first | (rw [add_block]; exact hn628_0) | (show (Addr.add _ _).block ≠ _; rw [add_block]; exact hn628_0) | exact hn628_0) (.int .i64 t624)).trans hx628_0; replace hx628_0 := (cell_far (p := ⟨gb627, 1, none⟩) (by first | (rw [add_block]; exact hn628_1) | (show (Addr.add _ _).block ≠ _; rw [add_block]; exact hn628_1) | exact hn628_1) (.int .i64 t625)).trans hx628_0; (try have hy628_0 := fun (n_ : Nat) => (show ((((w66.drewN n_).setCell ⟨gb627, 0, none⟩ (.int .i64 t624)).setCell ⟨gb627, 1, none⟩ (.int .i64 t625))).cell? _ = some _ from hx628_0)); clear hn628_0; clear hn628_1; replace p628 := eq_true p628; replace q628 := eq_true q628; have p629 : 0 ≤ ((rd t607 x15_5) : Int) := of_decide_eq_true (by first | (with_reducible assumption) | assumption); have q629 : (rd t607 x15_5) < (t603.length : Int) := of_decide_eq_true (by first | (with_reducible assumption) | assumption); obtain ⟨ad629, e629, hx629_0, hx629_1⟩ := at_T35 (Kd.R_reads' HO_5.out).2.2 (rd t607 x15_5) p629 q629; cases e629; have hn629_0 : ad629.block ≠ gb627 := Kd.own_blk (Kd.R_away HO_5.out (fun _ hk => hk.2)); have hn629_1 : ad629.block ≠ gb627 := Kd.own_blk (Kd.R_away HO_5.out (fun _ hk => hk.2)); replace hx629_0 := (cell_far (p := ⟨gb627, 0, none⟩) (by first | (rw [add_block]; exact hn629_0) | (show (Addr.add _ _).block ≠ _; rw [add_block]; exact hn629_0) | exact hn629_0) (.int .i64 t624)).trans hx629_0; replace hx629_1 := (cell_far (p := ⟨gb627, 0, none⟩) (by first | (rw [add_block]; exact hn629_0) | (show (Addr.add _ _).block ≠ _; rw [add_block]; exact hn629_0) | exact hn629_0) (.int .i64 t624)).trans hx629_1; replace hx629_0 := (cell_far (p := ⟨gb627, 1, none⟩) (by first | (rw [add_block]; exact hn629_1) | (show (Addr.add _ _).block ≠ _; rw [add_block]; exact hn629_1) | exact hn629_1) (.int .i64 t625)).trans hx629_0; replace hx629_1 := (cell_far (p := ⟨gb627, 1, none⟩) (by first | (rw [add_block]; exact hn629_1) | (show (Addr.add _ _).block ≠ _; rw [add_block]; exact hn629_1) | exact hn629_1) (.int .i64 t625)).trans hx629_1; (try have hy629_0 := fun (n_ : Nat) => (show ((((w66.drewN n_).setCell ⟨gb627, 0, none⟩ (.int .i64 t624)).setCell ⟨gb627, 1, none⟩ (.int .i64 t625))).cell? _ = some _ from hx629_0)); (try have hy629_1 := fun (n_ : Nat) => (show ((((w66.drewN n_).setCell ⟨gb627, 0, none⟩ (.int .i64 t624)).setCell ⟨gb627, 1, none⟩ (.int .i64 t625))).cell? _ = some _ from hx629_1)); clear hn629_0; clear hn629_1; replace p629 := eq_true p629; replace q629 := eq_true q629; have p630 : 0 ≤ ((ji58) : Int) := of_decide_eq_true (by first | (with_reducible assumption) | assumption); have q630 : (ji58) < (t603.length : Int) := of_decide_eq_true (by first | (with_reducible assumption) | assumption); obtain ⟨ad630, e630, hx630_0, hx630_1⟩ := at_T35 (Kd.R_reads' HO_5.out).2.2 (ji58) p630 q630; obtain rfl : ad629 = ad630 := (by injection e630); have hn630_0 : ad629.block ≠ gb627 := Kd.own_blk (Kd.R_away HO_5.out (fun _ hk => hk.2)); have hn630_1 : ad629.block ≠ gb627 := Kd.own_blk (Kd.R_away HO_5.out (fun _ hk => hk.2)); replace hx630_0 := (cell_far (p := ⟨gb627, 0, none⟩) (by first | (rw [add_block]; exact hn630_0) | (show (Addr.add _ _).block ≠ _; rw [add_block]; exact hn630_0) | exact hn630_0) (.int .i64 t624)).trans hx630_0; replace hx630_1 := (cell_far (p := ⟨gb627, 0, none⟩) (by first | (rw [add_block]; exact hn630_0) | (show (Addr.add _ _).block ≠ _; rw [add_block]; exact hn630_0) | exact hn630_0) (.int .i64 t624)).trans hx630_1; replace hx630_0 := (cell_far (p := ⟨gb627, 1, none⟩) (by first | (rw [add_block]; exact hn630_1) | (show (Addr.add _ _).block ≠ _; rw [add_block]; exact hn630_1) | exact hn630_1) (.int .i64 t625)).trans hx630_0; replace hx630_1 := (cell_far (p := ⟨gb627, 1, none⟩) (by first | (rw [add_block]; exact hn630_1) | (show (Addr.add _ _).block ≠ _; rw [add_block]; exact hn630_1) | exact hn630_1) (.int .i64 t625)).trans hx630_1; (try have hy630_0 := fun (n_ : Nat) => (show ((((w66.drewN n_).setCell ⟨gb627, 0, none⟩ (.int .i64 t624)).setCell ⟨gb627, 1, none⟩ (.int .i64 t625))).cell? _ = some _ from hx630_0)); (try have hy630_1 := fun (n_ : Nat) => (show ((((w66.drewN n_).setCell ⟨gb627, 0, none⟩ (.int .i64 t624)).setCell ⟨gb627, 1, none⟩ (.int .i64 t625))).cell? _ = some _ from hx630_1)); clear hn630_0; clear hn630_1; replace p630 := eq_true p630; replace q630 := eq_true q630; have p631 : 0 ≤ (x15_5 : Int) := of_decide_eq_true (by first | (with_reducible assumption) | assumption); have q631 : x15_5 < (t607.length : Int) := of_decide_eq_true (by first | (with_reducible assumption) | assumption); obtain ⟨ad631, e631, hx631_0⟩ := Kd.at_int (Kd.R_reads' HO_7.out).2.2 x15_5 p631 q631; obtain rfl : ad623 = ad631 := (by injection e631); have hn631_0 : ad623.block ≠ gb627 := Kd.own_blk (Kd.R_ne HO_7.out BK627.out (by decide)); have hn631_1 : ad623.block ≠ gb627 := Kd.own_blk (Kd.R_ne HO_7.out BK627.out (by decide)); replace hx631_0 := (cell_far (p := ⟨gb627, 0, none⟩) (by first | (rw [add_block]; exact hn631_0) | (show (Addr.add _ _).block ≠ _; rw [add_block]; exact hn631_0) | exact hn631_0) (.int .i64 t624)).trans hx631_0; replace hx631_0 := (cell_far (p := ⟨gb627, 1, none⟩) (by first | (rw [add_block]; exact hn631_1) | (show (Addr.add _ _).block ≠ _; rw [add_block]; exact hn631_1) | exact hn631_1) (.int .i64 t625)).trans hx631_0; (try have hy631_0 := fun (n_ : Nat) => (show ((((w66.drewN n_).setCell ⟨gb627, 0, none⟩ (.int .i64 t624)).setCell ⟨gb627, 1, none⟩ (.int .i64 t625))).cell? _ = some _ from hx631_0)); clear hn631_0; clear hn631_1; replace p631 := eq_true p631; replace q631 := eq_true q631; have p632 : 0 ≤ (x15_5 : Int) := of_decide_eq_true (by first | (with_reducible assumption) | assumption); have q632 : x15_5 < (t607.length : Int) := of_decide_eq_true (by first | (with_reducible assumption) | assumption); obtain ⟨ad632, e632, hx632_0⟩ := Kd.at_int (Kd.R_reads' HO_7.out).2.2 x15_5 p632 q632; obtain rfl : ad623 = ad632 := (by injection e632); have hn632_0 : ad623.block ≠ gb627 := Kd.own_blk (Kd.R_ne HO_7.out BK627.out (by decide)); have hn632_1 : ad623.block ≠ gb627 := Kd.own_blk (Kd.R_ne HO_7.out BK627.out (by decide)); replace hx632_0 := (cell_far (p := ⟨gb627, 0, none⟩) (by first | (rw [add_block]; exact hn632_0) | (show (Addr.add _ _).block ≠ _; rw [add_block]; exact hn632_0) | exact hn632_0) (.int .i64 t624)).trans hx632_0; replace hx632_0 := (cell_far (p := ⟨gb627, 1, none⟩) (by first | (rw [add_block]; exact hn632_1) | (show (Addr.add _ _).block ≠ _; rw [add_block]; exact hn632_1) | exact hn632_1) (.int .i64 t625)).trans hx632_0; (try have hy632_0 := fun (n_ : Nat) => (show ((((w66.drewN n_).setCell ⟨gb627, 0, none⟩ (.int .i64 t624)).setCell ⟨gb627, 1, none⟩ (.int .i64 t625))).cell? _ = some _ from hx632_0)); clear hn632_0; clear hn632_1; replace p632 := eq_true p632; replace q632 := eq_true q632)); try go_wp2_with (first | (go_at_call 11; (with_reducible refine (wear_Mean.calls kj44 _ _ l0 (rd t607 x15_5) ji58 t624 t625 t626 _ ?side1 ?side2 A53.out).mono ?_); (case side1 => repeat (first | exact (Kd.C_below HR0.out HB.out) | (with_reducible refine Kd.C_alloc ?_ _) | (with_reducible refine Kd.C_drewN ?_ _) | (with_reducible refine Kd.C_drew ?_))); (case side2 => exact HC0.out); rintro e w65 ⟨rfl, hb⟩; have n0_ := Aside0.mk (Kd.R_below (by (with_reducible repeat (first | apply Kd.R_alloc | apply Kd.R_drewN | apply Kd.R_drew)); exact HO_5.out) hb); have n1_ := Aside0.mk (Kd.R_below (by (with_reducible repeat (first | apply Kd.R_alloc | apply Kd.R_drewN | apply Kd.R_drew)); exact HO_7.out) hb); have n2_ := Aside0.mk (below_step (by repeat (first | (with_reducible first | exact HB.out | apply below_alloc | apply pw_below_drewN | apply below_drew1) | exact HB.out)) hb); clear HO_5; clear HO_7; clear HB; have HO_5 := n0_; have HO_7 := n1_; have HB := n2_; clear n0_ n1_ n2_; (try clear hb); (try clear hb2); (try clear hk); (try clear hi)) | ((with_reducible refine gate_dst (N := 17) rfl ?_); (try (refine gate_guard (by rfl) ?_; dsimp only)); refine box_event ?hg (N := 17) ?hd (cs := #[.int .i64 0, .int .i64 0]) (t := 35) ?hr ?_; (case hd => rfl); (case hg => rfl); (case hr => first | (go_simp; done) | (go_simp; rfl)); intro gb627 hg w66 hbox hb; have n0_ := Aside0.mk (Kd.R_below (Kd.R_elderB (by (with_reducible repeat (first | apply Kd.R_alloc | apply Kd.R_drewN | apply Kd.R_drew)); exact HO_5.out) gb627 (Nat.le_of_eq hg.symm)) hb); have n1_ := Aside0.mk (Kd.R_below (by (with_reducible repeat (first | apply Kd.R_alloc | apply Kd.R_drewN | apply Kd.R_drew)); exact HO_7.out) hb); have n2_ := Aside0.mk (below_step (by repeat (first | (with_reducible first | exact HB.out | apply below_alloc | apply pw_below_drewN | apply below_drew1) | exact HB.out)) hb); have n3_ := Aside0.mk (hbox); have n4_ := Aside0.mk ((by rw [hg]; exact (below_size (by repeat (first | (with_reducible first | exact HB.out | apply below_alloc | apply pw_below_drewN | apply below_drew1) | exact HB.out))) : w.heap.size ≤ gb627)); have n5_ := Aside0.mk ((by rw [hg]; exact (below_size (by repeat (first | (with_reducible first | exact HB.out | apply below_alloc | apply pw_below_drewN | apply below_drew1) | exact HB.out))) : w.heap.size ≤ gb627)); clear HO_5; clear HO_7; clear HB; have HO_5 := n0_; have HO_7 := n1_; have HB := n2_; have BK627 := n3_; have GW627 := n4_; have GE627 := n5_; clear n0_ n1_ n2_ n3_ n4_ n5_; clear hb hbox hg; have hcz67_0 : w66.cell? ⟨gb627, 0, none⟩ = some (.int .i64 0) := (blk_cell BK627.out 0).trans rfl; have hcz67_1 : w66.cell? ⟨gb627, 1, none⟩ = some (.int .i64 0) := (blk_cell BK627.out 1).trans rfl; have hfz67_0 := blk_frozen BK627.out 0; have hfz67_1 := blk_frozen BK627.out 1; have p628 : 0 ≤ (x15_5 : Int) := of_decide_eq_true (by first | (with_reducible assumption) | assumption); have q628 : x15_5 < (t607.length : Int) := of_decide_eq_true (by first | (with_reducible assumption) | assumption); obtain ⟨ad628, e628, hx628_0⟩ := Kd.at_int (Kd.R_reads' HO_7.out).2.2 x15_5 p628 q628; obtain rfl : ad623 = ad628 := (by injection e628); have hn628_0 : ad623.block ≠ gb627 := Kd.own_blk (Kd.R_ne HO_7.out BK627.out (by decide)); have hn628_1 : ad623.block ≠ gb627 := Kd.own_blk (Kd.R_ne HO_7.out BK627.out (by decide)); replace hx628_0 := (cell_far (p := ⟨gb627, 0, none⟩) (by first | (rw [add_block]; exact hn628_0) | (show (Addr.add _ _).block ≠ _; rw [add_block]; exact hn628_0) | exact hn628_0) (.int .i64 t624)).trans hx628_0; replace hx628_0 := (cell_far (p := ⟨gb627, 1, none⟩) (by first | (rw [add_block]; exact hn628_1) | (show (Addr.add _ _).block ≠ _; rw [add_block]; exact hn628_1) | exact hn628_1) (.int .i64 t625)).trans hx628_0; (try have hy628_0 := fun (n_ : Nat) => (show ((((w66.drewN n_).setCell ⟨gb627, 0, none⟩ (.int .i64 t624)).setCell ⟨gb627, 1, none⟩ (.int .i64 t625))).cell? _ = some _ from hx628_0)); clear hn628_0; clear hn628_1; replace p628 := eq_true p628; replace q628 := eq_true q628; have p629 : 0 ≤ ((rd t607 x15_5) : Int) := of_decide_eq_true (by first | (with_reducible assumption) | assumption); have q629 : (rd t607 x15_5) < (t603.length : Int) := of_decide_eq_true (by first | (with_reducible assumption) | assumption); obtain ⟨ad629, e629, hx629_0, hx629_1⟩ := at_T35 (Kd.R_reads' HO_5.out).2.2 (rd t607 x15_5) p629 q629; cases e629; have hn629_0 : ad629.block ≠ gb627 := Kd.own_blk (Kd.R_away HO_5.out (fun _ hk => hk.2)); have hn629_1 : ad629.block ≠ gb627 := Kd.own_blk (Kd.R_away HO_5.out (fun _ hk => hk.2)); replace hx629_0 := (cell_far (p := ⟨gb627, 0, none⟩) (by first | (rw [add_block]; exact hn629_0) | (show (Addr.add _ _).block ≠ _; rw [add_block]; exact hn629_0) | exact hn629_0) (.int .i64 t624)).trans hx629_0; replace hx629_1 := (cell_far (p := ⟨gb627, 0, none⟩) (by first | (rw [add_block]; exact hn629_0) | (show (Addr.add _ _).block ≠ _; rw [add_block]; exact hn629_0) | exact hn629_0) (.int .i64 t624)).trans hx629_1; replace hx629_0 := (cell_far (p := ⟨gb627, 1, none⟩) (by first | (rw [add_block]; exact hn629_1) | (show (Addr.add _ _).block ≠ _; rw [add_block]; exact hn629_1) | exact hn629_1) (.int .i64 t625)).trans hx629_0; replace hx629_1 := (cell_far (p := ⟨gb627, 1, none⟩) (by first | (rw [add_block]; exact hn629_1) | (show (Addr.add _ _).block ≠ _; rw [add_block]; exact hn629_1) | exact hn629_1) (.int .i64 t625)).trans hx629_1; (try have hy629_0 := fun (n_ : Nat) => (show ((((w66.drewN n_).setCell ⟨gb627, 0, none⟩ (.int .i64 t624)).setCell ⟨gb627, 1, none⟩ (.int .i64 t625))).cell? _ = some _ from hx629_0)); (try have hy629_1 := fun (n_ : Nat) => (show ((((w66.drewN n_).setCell ⟨gb627, 0, none⟩ (.int .i64 t624)).setCell ⟨gb627, 1, none⟩ (.int .i64 t625))).cell? _ = some _ from hx629_1)); clear hn629_0; clear hn629_1; replace p629 := eq_true p629; replace q629 := eq_true q629; have p630 : 0 ≤ ((ji58) : Int) := of_decide_eq_true (by first | (with_reducible assumption) | assumption); have q630 : (ji58) < (t603.length : Int) := of_decide_eq_true (by first | (with_reducible assumption) | assumption); obtain ⟨ad630, e630, hx630_0, hx630_1⟩ := at_T35 (Kd.R_reads' HO_5.out).2.2 (ji58) p630 q630; obtain rfl : ad629 = ad630 := (by injection e630); have hn630_0 : ad629.block ≠ gb627 := Kd.own_blk (Kd.R_away HO_5.out (fun _ hk => hk.2)); have hn630_1 : ad629.block ≠ gb627 := Kd.own_blk (Kd.R_away HO_5.out (fun _ hk => hk.2)); replace hx630_0 := (cell_far (p := ⟨gb627, 0, none⟩) (by first | (rw [add_block]; exact hn630_0) | (show (Addr.add _ _).block ≠ _; rw [add_block]; exact hn630_0) | exact hn630_0) (.int .i64 t624)).trans hx630_0; replace hx630_1 := (cell_far (p := ⟨gb627, 0, none⟩) (by first | (rw [add_block]; exact hn630_0) | (show (Addr.add _ _).block ≠ _; rw [add_block]; exact hn630_0) | exact hn630_0) (.int .i64 t624)).trans hx630_1; replace hx630_0 := (cell_far (p := ⟨gb627, 1, none⟩) (by first | (rw [add_block]; exact hn630_1) | (show (Addr.add _ _).block ≠ _; rw [add_block]; exact hn630_1) | exact hn630_1) (.int .i64 t625)).trans hx630_0; replace hx630_1 := (cell_far (p := ⟨gb627, 1, none⟩) (by first | (rw [add_block]; exact hn630_1) | (show (Addr.add _ _).block ≠ _; rw [add_block]; exact hn630_1) | exact hn630_1) (.int .i64 t625)).trans hx630_1; (try have hy630_0 := fun (n_ : Nat) => (show ((((w66.drewN n_).setCell ⟨gb627, 0, none⟩ (.int .i64 t624)).setCell ⟨gb627, 1, none⟩ (.int .i64 t625))).cell? _ = some _ from hx630_0)); (try have hy630_1 := fun (n_ : Nat) => (show ((((w66.drewN n_).setCell ⟨gb627, 0, none⟩ (.int .i64 t624)).setCell ⟨gb627, 1, none⟩ (.int .i64 t625))).cell? _ = some _ from hx630_1)); clear hn630_0; clear hn630_1; replace p630 := eq_true p630; replace q630 := eq_true q630; have p631 : 0 ≤ (x15_5 : Int) := of_decide_eq_true (by first | (with_reducible assumption) | assumption); have q631 : x15_5 < (t607.length : Int) := of_decide_eq_true (by first | (with_reducible assumption) | assumption); obtain ⟨ad631, e631, hx631_0⟩ := Kd.at_int (Kd.R_reads' HO_7.out).2.2 x15_5 p631 q631; obtain rfl : ad623 = ad631 := (by injection e631); have hn631_0 : ad623.block ≠ gb627 := Kd.own_blk (Kd.R_ne HO_7.out BK627.out (by decide)); have hn631_1 : ad623.block ≠ gb627 := Kd.own_blk (Kd.R_ne HO_7.out BK627.out (by decide)); replace hx631_0 := (cell_far (p := ⟨gb627, 0, none⟩) (by first | (rw [add_block]; exact hn631_0) | (show (Addr.add _ _).block ≠ _; rw [add_block]; exact hn631_0) | exact hn631_0) (.int .i64 t624)).trans hx631_0; replace hx631_0 := (cell_far (p := ⟨gb627, 1, none⟩) (by first | (rw [add_block]; exact hn631_1) | (show (Addr.add _ _).block ≠ _; rw [add_block]; exact hn631_1) | exact hn631_1) (.int .i64 t625)).trans hx631_0; (try have hy631_0 := fun (n_ : Nat) => (show ((((w66.drewN n_).setCell ⟨gb627, 0, none⟩ (.int .i64 t624)).setCell ⟨gb627, 1, none⟩ (.int .i64 t625))).cell? _ = some _ from hx631_0)); clear hn631_0; clear hn631_1; replace p631 := eq_true p631; replace q631 := eq_true q631; have p632 : 0 ≤ (x15_5 : Int) := of_decide_eq_true (by first | (with_reducible assumption) | assumption); have q632 : x15_5 < (t607.length : Int) := of_decide_eq_true (by first | (with_reducible assumption) | assumption); obtain ⟨ad632, e632, hx632_0⟩ := Kd.at_int (Kd.R_reads' HO_7.out).2.2 x15_5 p632 q632; obtain rfl : ad623 = ad632 := (by injection e632); have hn632_0 : ad623.block ≠ gb627 := Kd.own_blk (Kd.R_ne HO_7.out BK627.out (by decide)); have hn632_1 : ad623.block ≠ gb627 := Kd.own_blk (Kd.R_ne HO_7.out BK627.out (by decide)); replace hx632_0 := (cell_far (p := ⟨gb627, 0, none⟩) (by first | (rw [add_block]; exact hn632_0) | (show (Addr.add _ _).block ≠ _; rw [add_block]; exact hn632_0) | exact hn632_0) (.int .i64 t624)).trans hx632_0; replace hx632_0 := (cell_far (p := ⟨gb627, 1, none⟩) (by first | (rw [add_block]; exact hn632_1) | (show (Addr.add _ _).block ≠ _; rw [add_block]; exact hn632_1) | exact hn632_1) (.int .i64 t625)).trans hx632_0; (try have hy632_0 := fun (n_ : Nat) => (show ((((w66.drewN n_).setCell ⟨gb627, 0, none⟩ (.int .i64 t624)).setCell ⟨gb627, 1, none⟩ (.int .i64 t625))).cell? _ = some _ from hx632_0)); clear hn632_0; clear hn632_1; replace p632 := eq_true p632; replace q632 := eq_true q632)))
                                go_roundg kj44
                                case measure => have := HJ2.out; have := HJ10.out; have := HJ24.out; have := HK4.out; have := HK5.out; have := HJ39.out; have := HJ44.out; omega
                                case rel => exact ⟨(wrap64 (x14_5 + (wrap64 (t624 * (wrap64 (Int.tdiv (wrap64 (x16_39 - (rd t607 x15_5))) t625)))))), (wrap64 (x15_5 + 1)), (by first | rfl | (simp; done) | (simp [*]; done)), (by first | rfl | (simp; done) | (simp [*]; done)), H', ⟨by have := HJ2.out; have := HJ10.out; have := HJ24.out; have := HK4.out; have := HK5.out; have := HJ39.out; have := HJ44.out; omega⟩, ⟨by (with_reducible repeat (first | apply Kd.R_alloc | apply Kd.R_drewN | apply Kd.R_drew)); exact Kd.R_mono (Kd.R_far (p := ⟨gb627, 1, none⟩) (Kd.R_far (p := ⟨gb627, 0, none⟩) (Kd.R_mono HO_5.out (fun k_ hk => (⟨hk, hk.2⟩ : _ ∧ k_ ≠ gb627))) (fun _ hk => hk.2) (.int .i64 t624)) (fun _ hk => hk.2) (.int .i64 t625)) (fun _ hk => trivial)⟩, ⟨by (with_reducible repeat (first | apply Kd.R_alloc | apply Kd.R_drewN | apply Kd.R_drew)); exact Kd.R_mono (Kd.R_far (p := ⟨gb627, 1, none⟩) (Kd.R_far (p := ⟨gb627, 0, none⟩) (Kd.R_types HO_7.out BK627.out (by decide)) (fun _ hk => hk.2) (.int .i64 t624)) (fun _ hk => hk.2) (.int .i64 t625)) (fun _ hk => trivial)⟩, ⟨by repeat (first | (with_reducible first | exact HB.out | apply below_alloc | apply pw_below_drewN | apply below_drew1 | refine below_set ?_ GE627.out) | exact HB.out)⟩⟩
                      rw [if_neg c39] at H; have c39b0 : decide (x15_5 < (t607.length : Int)) = false := decide_eq_false c39; clear c39; have H' := Aside0.mk H; clear H; obtain ⟨Ao68, co68, eo68⟩ := Kd.R_slice HO_7.out; subst eo68
                      go_wp2
                      repeat (go_quiet (fail); try go_wp2)
                      go_loopg [14, 19] k5 (fun kq v14 v19 w' => ∃ (x14_6 : Int) (x19_6 : Int), v14 = .int .i64 x14_6 ∧ v19 = .int .i64 x19_6 ∧ Aside0 (droppertop_TopWear.l2 kq l0 l1 t603 t607 x14_6 x19_6 = some r) ∧ Aside0 (kq ≤ k5) ∧ Aside0 (Kd.R k35 35 w' w.heap.size (fun _ => True) (.slice Ao26 t603.length co26) t603) ∧ Aside0 (Kd.R (Kd.int .i64) 3 w' w.heap.size (fun _ => True) (.slice Ao68 t607.length co68) t607) ∧ Aside0 (Below w.heap.size w w'))
                      case atStart => exact ⟨(x14_5), (0), (by first | rfl | (simp; done) | (simp [*]; done)), (by first | rfl | (simp; done) | (simp [*]; done)), H', ⟨Nat.le_refl _⟩, ⟨by (with_reducible repeat (first | apply Kd.R_alloc | apply Kd.R_drewN | apply Kd.R_drew)); exact HO_5.out⟩, ⟨by (with_reducible repeat (first | apply Kd.R_alloc | apply Kd.R_drewN | apply Kd.R_drew)); exact HO_7.out⟩, ⟨by repeat (first | (with_reducible first | exact HB.out | apply below_alloc | apply pw_below_drewN | apply below_drew1) | exact HB.out)⟩⟩
                      case round =>
                        clear H'
                        try clear c1
                        try clear c2
                        try clear p2
                        try clear c3
                        try clear c4
                        try clear c5
                        try clear c6
                        try clear p6
                        try clear q6
                        try clear hx6
                        try clear qi6
                        try clear c14
                        try clear c14b0
                        try clear c14b1
                        try clear c15
                        try clear c15b0
                        try clear c15b1
                        try clear c17
                        try clear c18
                        try clear c18b0
                        try clear c18b1
                        try clear c18b2
                        try clear c19
                        try clear c19b0
                        try clear c19b1
                        try clear c23
                        try clear c28
                        try clear c28b0
                        try clear c28b1
                        try clear c29
                        try clear c30
                        try clear c30b0
                        try clear c32
                        try clear c32b0
                        try clear c32b1
                        try clear c33
                        try clear c33b0
                        try clear c34
                        try clear c34b0
                        try clear c35
                        try clear c35b0
                        try clear c39
                        try clear c39b0
                        try clear c42
                        try clear c42b0
                        try clear c44
                        try clear c44b0
                        try clear c46
                        try clear c46b0
                        try clear c47
                        try clear c47b0
                        try clear c48
                        try clear c48b0
                        try clear c49
                        try clear c49b0
                        try clear c50
                        try clear c51
                        try clear c51b0
                        try clear c52
                        try clear c52b0
                        try clear c54
                        try clear c54b0
                        try clear c54b1
                        try clear c55
                        try clear c55b0
                        try clear c56
                        try clear c56b0
                        try clear c57
                        try clear c57b0
                        try clear c59
                        try clear c59b0
                        try clear c60
                        try clear c60b0
                        try clear c61
                        try clear c61b0
                        try clear p61
                        try clear q61
                        try clear hx61
                        try clear c62
                        try clear c62b0
                        try clear p62
                        try clear q62
                        try clear hx62
                        try clear c63
                        try clear c63b0
                        try clear c63b1
                        try clear p63
                        try clear q63
                        try clear hx63
                        try clear c64
                        try clear c64b0
                        try clear c64b1
                        try clear p64
                        try clear hcz38_0
                        try clear hcz38_1
                        try clear hcz67_0
                        try clear hcz67_1
                        try clear hfz38_0
                        try clear hfz38_1
                        try clear hfz67_0
                        try clear hfz67_1
                        try clear hx612_0
                        try clear hx619_0
                        try clear hx619_1
                        try clear hx620_0
                        try clear hx621_0
                        try clear hx622_0
                        try clear hx623_0
                        try clear hx628_0
                        try clear hx629_0
                        try clear hx629_1
                        try clear hx630_0
                        try clear hx630_1
                        try clear hx631_0
                        try clear hx632_0
                        try clear p2
                        try clear p6
                        try clear p612
                        try clear p619
                        try clear p620
                        try clear p621
                        try clear p622
                        try clear p623
                        try clear p628
                        try clear p629
                        try clear p630
                        try clear p631
                        try clear p632
                        try clear q6
                        try clear q612
                        try clear q619
                        try clear q620
                        try clear q621
                        try clear q622
                        try clear q623
                        try clear q628
                        try clear q629
                        try clear q630
                        try clear q631
                        try clear q632
                        obtain ⟨x14_6, x19_6, rfl, rfl, HA, HK6, HO_5, HO_7, HB⟩ := hrel
                        cases gk with
                        | zero => exact absurd HA.out (by simp [droppertop_TopWear.l2])
                        | succ k6 =>
                          have H := HA.out; clear HA; simp only [droppertop_TopWear.l2] at H; by_cases c69 : x19_6 < (l0.length : Int)
                          · rw [if_pos c69] at H; have c69b0 : decide (x19_6 < (l0.length : Int)) = true := decide_eq_true c69; clear c69; by_cases c70 : 0 ≤ x19_6; rotate_left
                            · rw [if_neg c70] at H
                              exact absurd H (by simp)
                            rw [if_pos c70] at H; have c70b0 : decide (0 ≤ x19_6) = true := decide_eq_true c70; clear c70; have H' := Aside0.mk H; clear H
                            have p633 : 0 ≤ (x19_6 : Int) := of_decide_eq_true (by first | (with_reducible assumption) | assumption)
                            have q633 : x19_6 < (l0.length : Int) := of_decide_eq_true (by first | (with_reducible assumption) | assumption)
                            obtain ⟨ad633, e633, hx633_0⟩ := Kd.at_int HR0.out x19_6 p633 q633
                            cases e633
                            replace hx633_0 := (HB.out.cell (World.block_lt_of_cell? w _ hx633_0)).trans hx633_0; replace p633 := eq_true p633; replace q633 := eq_true q633
                            go_wp2
                            repeat (go_quiet (fail); try go_wp2)
                            go_roundg k6
                            case measure => have := HJ2.out; have := HJ10.out; have := HJ24.out; have := HK4.out; have := HK5.out; have := HK6.out; omega
                            case rel => exact ⟨(wrap64 (x14_6 - (rd l0 x19_6))), (wrap64 (x19_6 + 1)), (by first | rfl | (simp; done) | (simp [*]; done)), (by first | rfl | (simp; done) | (simp [*]; done)), H', ⟨by have := HJ2.out; have := HJ10.out; have := HJ24.out; have := HK4.out; have := HK5.out; have := HK6.out; omega⟩, ⟨by (with_reducible repeat (first | apply Kd.R_alloc | apply Kd.R_drewN | apply Kd.R_drew)); exact HO_5.out⟩, ⟨by (with_reducible repeat (first | apply Kd.R_alloc | apply Kd.R_drewN | apply Kd.R_drew)); exact HO_7.out⟩, ⟨by repeat (first | (with_reducible first | exact HB.out | apply below_alloc | apply pw_below_drewN | apply below_drew1) | exact HB.out)⟩⟩
                          rw [if_neg c69] at H; have c69b0 : decide (x19_6 < (l0.length : Int)) = false := decide_eq_false c69; clear c69; replace H := Option.bind_eq_some_iff.mp H; obtain ⟨⟨t634, t635⟩, A710, H⟩ := H; (try dsimp only at H); have A71 := Aside0.mk A710; clear A710; have HC72 := Aside0.mk H; clear H
                          go_upto_region 34 with (first | (go_at_call 12; (with_reducible refine (wear_Falls.calls k6 _ _ l0 t634 t635 _ ?side1 ?side2 A71.out).mono ?_); (case side1 => repeat (first | exact (Kd.C_below HR0.out HB.out) | (with_reducible refine Kd.C_alloc ?_ _) | (with_reducible refine Kd.C_drewN ?_ _) | (with_reducible refine Kd.C_drew ?_))); (case side2 => exact HC0.out); rintro e w73 ⟨rfl, hb⟩; have n0_ := Aside0.mk (Kd.R_below (by (with_reducible repeat (first | apply Kd.R_alloc | apply Kd.R_drewN | apply Kd.R_drew)); exact HO_5.out) hb); have n1_ := Aside0.mk (Kd.R_below (by (with_reducible repeat (first | apply Kd.R_alloc | apply Kd.R_drewN | apply Kd.R_drew)); exact HO_7.out) hb); have n2_ := Aside0.mk (below_step (by repeat (first | (with_reducible first | exact HB.out | apply below_alloc | apply pw_below_drewN | apply below_drew1) | exact HB.out)) hb); clear HO_5; clear HO_7; clear HB; have HO_5 := n0_; have HO_7 := n1_; have HB := n2_; clear n0_ n1_ n2_; (try clear hb); (try clear hb2); (try clear hk); (try clear hi)))
                          repeat (go_quiet (first | (go_at_call 12; (with_reducible refine (wear_Falls.calls k6 _ _ l0 t634 t635 _ ?side1 ?side2 A71.out).mono ?_); (case side1 => repeat (first | exact (Kd.C_below HR0.out HB.out) | (with_reducible refine Kd.C_alloc ?_ _) | (with_reducible refine Kd.C_drewN ?_ _) | (with_reducible refine Kd.C_drew ?_))); (case side2 => exact HC0.out); rintro e w73 ⟨rfl, hb⟩; have n0_ := Aside0.mk (Kd.R_below (by (with_reducible repeat (first | apply Kd.R_alloc | apply Kd.R_drewN | apply Kd.R_drew)); exact HO_5.out) hb); have n1_ := Aside0.mk (Kd.R_below (by (with_reducible repeat (first | apply Kd.R_alloc | apply Kd.R_drewN | apply Kd.R_drew)); exact HO_7.out) hb); have n2_ := Aside0.mk (below_step (by repeat (first | (with_reducible first | exact HB.out | apply below_alloc | apply pw_below_drewN | apply below_drew1) | exact HB.out)) hb); clear HO_5; clear HO_7; clear HB; have HO_5 := n0_; have HO_7 := n1_; have HB := n2_; clear n0_ n1_ n2_; (try clear hb); (try clear hb2); (try clear hk); (try clear hi))); go_upto_region 34 with (first | (go_at_call 12; (with_reducible refine (wear_Falls.calls k6 _ _ l0 t634 t635 _ ?side1 ?side2 A71.out).mono ?_); (case side1 => repeat (first | exact (Kd.C_below HR0.out HB.out) | (with_reducible refine Kd.C_alloc ?_ _) | (with_reducible refine Kd.C_drewN ?_ _) | (with_reducible refine Kd.C_drew ?_))); (case side2 => exact HC0.out); rintro e w73 ⟨rfl, hb⟩; have n0_ := Aside0.mk (Kd.R_below (by (with_reducible repeat (first | apply Kd.R_alloc | apply Kd.R_drewN | apply Kd.R_drew)); exact HO_5.out) hb); have n1_ := Aside0.mk (Kd.R_below (by (with_reducible repeat (first | apply Kd.R_alloc | apply Kd.R_drewN | apply Kd.R_drew)); exact HO_7.out) hb); have n2_ := Aside0.mk (below_step (by repeat (first | (with_reducible first | exact HB.out | apply below_alloc | apply pw_below_drewN | apply below_drew1) | exact HB.out)) hb); clear HO_5; clear HO_7; clear HB; have HO_5 := n0_; have HO_7 := n1_; have HB := n2_; clear n0_ n1_ n2_; (try clear hb); (try clear hb2); (try clear hk); (try clear hi))))
                          (try simp only [Act.put, List.setIfInBounds_toArray, List.set_cons_zero, List.set_cons_succ])
                          go_cut [224] (fun v224 wc => ∃ (kq : Nat) (x224_71 : Bool), v224 = .bool x224_71 ∧ Aside0 (droppertop_TopWear.j8 kq l0 l1 t603 t607 t634 x224_71 = some r) ∧ Aside0 (kq ≤ k6) ∧ Aside0 (Kd.R k35 35 wc w.heap.size (fun _ => True) (.slice Ao26 t603.length co26) t603) ∧ Aside0 (Kd.R (Kd.int .i64) 3 wc w.heap.size (fun _ => True) (.slice Ao68 t607.length co68) t607) ∧ Aside0 (Below w.heap.size w wc))
                          case first => as_aux_lemma =>
                            have H := HC72.out; clear HC72; by_cases c74 : t635 = 0; rotate_left
                            · rw [if_neg c74] at H; have c74b0 : (t635 == 0) = false := beq_eq_false_iff_ne.mpr c74; have c74b1 : (t635 != 0) = true := bne_iff_ne.mpr c74
                              (first | rw [c74b0] | (simp only [i64_w, i32_w]; rw [c74b0]) | skip)
                              exact absurd (H.trans (congrArg some hT)) (droppertop_TopWear.j8_no _ _ _ _ _ _)
                            rw [if_pos c74] at H; have c74b0 : (t635 == 0) = true := beq_iff_eq.mpr c74; have c74b1 : (t635 != 0) = false := bne_eq_false_iff_eq.mpr c74; clear c74
                            (first | rw [c74b0] | (simp only [i64_w, i32_w]; rw [c74b0]) | skip)
                            have H' := Aside0.mk H; clear H
                            go_wp2
                            repeat (go_quiet (fail); try go_wp2)
                            go_meet
                            case rel => exact ⟨_, ((x14_6 != 0)), (by first | rfl | (simp; done) | (simp [*]; done)), H', ⟨by have := HJ2.out; have := HJ10.out; have := HJ24.out; have := HK4.out; have := HK5.out; have := HK6.out; first | omega | exact Nat.le_refl _⟩, ⟨by (with_reducible repeat (first | apply Kd.R_alloc | apply Kd.R_drewN | apply Kd.R_drew)); exact HO_5.out⟩, ⟨by (with_reducible repeat (first | apply Kd.R_alloc | apply Kd.R_drewN | apply Kd.R_drew)); exact HO_7.out⟩, ⟨by repeat (first | (with_reducible first | exact HB.out | apply below_alloc | apply pw_below_drewN | apply below_drew1) | exact HB.out)⟩⟩
                          case rest => as_aux_lemma =>
                            clear HC72
                            try clear c1
                            try clear c2
                            try clear p2
                            try clear c3
                            try clear c4
                            try clear c5
                            try clear c6
                            try clear p6
                            try clear q6
                            try clear hx6
                            try clear qi6
                            try clear c7
                            try clear c14
                            try clear c14b0
                            try clear c14b1
                            try clear c15
                            try clear c15b0
                            try clear c15b1
                            try clear c17
                            try clear c18
                            try clear c18b0
                            try clear c18b1
                            try clear c18b2
                            try clear c19
                            try clear c19b0
                            try clear c19b1
                            try clear c23
                            try clear c28
                            try clear c28b0
                            try clear c28b1
                            try clear c29
                            try clear c30
                            try clear c30b0
                            try clear c32
                            try clear c32b0
                            try clear c32b1
                            try clear c33
                            try clear c33b0
                            try clear c34
                            try clear c34b0
                            try clear c35
                            try clear c35b0
                            try clear c39
                            try clear c39b0
                            try clear c42
                            try clear c42b0
                            try clear c44
                            try clear c44b0
                            try clear c46
                            try clear c46b0
                            try clear c47
                            try clear c47b0
                            try clear c48
                            try clear c48b0
                            try clear c49
                            try clear c49b0
                            try clear c50
                            try clear c51
                            try clear c51b0
                            try clear c52
                            try clear c52b0
                            try clear c54
                            try clear c54b0
                            try clear c54b1
                            try clear c55
                            try clear c55b0
                            try clear c56
                            try clear c56b0
                            try clear c57
                            try clear c57b0
                            try clear c59
                            try clear c59b0
                            try clear c60
                            try clear c60b0
                            try clear c61
                            try clear c61b0
                            try clear p61
                            try clear q61
                            try clear hx61
                            try clear c62
                            try clear c62b0
                            try clear p62
                            try clear q62
                            try clear hx62
                            try clear c63
                            try clear c63b0
                            try clear c63b1
                            try clear p63
                            try clear q63
                            try clear hx63
                            try clear c64
                            try clear c64b0
                            try clear c64b1
                            try clear p64
                            try clear c69
                            try clear c69b0
                            try clear c70
                            try clear c70b0
                            try clear c74
                            try clear c74b0
                            try clear c74b1
                            try clear hcz38_0
                            try clear hcz38_1
                            try clear hcz67_0
                            try clear hcz67_1
                            try clear hfz38_0
                            try clear hfz38_1
                            try clear hfz67_0
                            try clear hfz67_1
                            try clear hx612_0
                            try clear hx619_0
                            try clear hx619_1
                            try clear hx620_0
                            try clear hx621_0
                            try clear hx622_0
                            try clear hx623_0
                            try clear hx628_0
                            try clear hx629_0
                            try clear hx629_1
                            try clear hx630_0
                            try clear hx630_1
                            try clear hx631_0
                            try clear hx632_0
                            try clear hx633_0
                            try clear p2
                            try clear p6
                            try clear p61
                            try clear p612
                            try clear p619
                            try clear p62
                            try clear p620
                            try clear p621
                            try clear p622
                            try clear p623
                            try clear p628
                            try clear p629
                            try clear p63
                            try clear p630
                            try clear p631
                            try clear p632
                            try clear p633
                            try clear p64
                            try clear q6
                            try clear q61
                            try clear q612
                            try clear q619
                            try clear q62
                            try clear q620
                            try clear q621
                            try clear q622
                            try clear q623
                            try clear q628
                            try clear q629
                            try clear q63
                            try clear q630
                            try clear q631
                            try clear q632
                            try clear q633
                            obtain ⟨kq, x224_71, rfl, HA, HJ71, HO_5, HO_7, HB⟩ := hcut
                            cases kq with
                            | zero => exact absurd HA.out (by simp [droppertop_TopWear.j8])
                            | succ kj71 =>
                              have H := HA.out; clear HA; simp only [droppertop_TopWear.j8] at H; by_cases c75 : x224_71 = true
                              · subst c75; rw [if_pos rfl] at H
                                exact absurd (hT.symm.trans (Option.some.inj H).symm) (by decide)
                              replace c75 := Bool.eq_false_iff.mpr c75; subst c75; rw [if_neg (show ¬ (false = true) by decide)] at H; have HC76 := Aside0.mk H; clear H
                              go_upto_region 36 with (fail)
                              repeat (go_quiet (fail); go_upto_region 36 with (fail))
                              go_cut [231] (fun v231 wc => ∃ (kq : Nat) (x231_75 : Bool), v231 = .bool x231_75 ∧ Aside0 (droppertop_TopWear.j9 kq l0 l1 t603 x231_75 = some r) ∧ Aside0 (kq ≤ kj71) ∧ Aside0 (Kd.R k35 35 wc w.heap.size (fun _ => True) (.slice Ao26 t603.length co26) t603) ∧ Aside0 (Below w.heap.size w wc))
                              case first => as_aux_lemma =>
                                have H := HC76.out; clear HC76; by_cases c77 : t634 = 0; rotate_left
                                · rw [if_neg c77] at H; have c77b0 : (t634 == 0) = false := beq_eq_false_iff_ne.mpr c77; have c77b1 : (t634 != 0) = true := bne_iff_ne.mpr c77
                                  (first | rw [c77b0] | (simp only [i64_w, i32_w]; rw [c77b0]) | skip)
                                  have H' := Aside0.mk H; clear H
                                  go_wp2
                                  repeat (go_quiet (fail); try go_wp2)
                                  go_meet
                                  case rel => exact ⟨_, (false), (by first | rfl | (simp; done) | (simp [*]; done)), H', ⟨by have := HJ2.out; have := HJ10.out; have := HJ24.out; have := HK4.out; have := HK5.out; have := HK6.out; have := HJ71.out; first | omega | exact Nat.le_refl _⟩, ⟨by (with_reducible repeat (first | apply Kd.R_alloc | apply Kd.R_drewN | apply Kd.R_drew)); exact HO_5.out⟩, ⟨by repeat (first | (with_reducible first | exact HB.out | apply below_alloc | apply pw_below_drewN | apply below_drew1) | exact HB.out)⟩⟩
                                rw [if_pos c77] at H; have c77b0 : (t634 == 0) = true := beq_iff_eq.mpr c77; have c77b1 : (t634 != 0) = false := bne_eq_false_iff_eq.mpr c77; clear c77
                                (first | rw [c77b0] | (simp only [i64_w, i32_w]; rw [c77b0]) | skip)
                                have H' := Aside0.mk H; clear H
                                go_wp2
                                repeat (go_quiet (fail); try go_wp2)
                                go_meet
                                case rel => exact ⟨_, (decide ((t607.length : Int) > 0)), (by first | rfl | (simp; done) | (simp [*]; done)), H', ⟨by have := HJ2.out; have := HJ10.out; have := HJ24.out; have := HK4.out; have := HK5.out; have := HK6.out; have := HJ71.out; first | omega | exact Nat.le_refl _⟩, ⟨by (with_reducible repeat (first | apply Kd.R_alloc | apply Kd.R_drewN | apply Kd.R_drew)); exact HO_5.out⟩, ⟨by repeat (first | (with_reducible first | exact HB.out | apply below_alloc | apply pw_below_drewN | apply below_drew1) | exact HB.out)⟩⟩
                              case rest => as_aux_lemma =>
                                clear HC76
                                try clear c1
                                try clear c2
                                try clear p2
                                try clear c3
                                try clear c4
                                try clear c5
                                try clear c6
                                try clear p6
                                try clear q6
                                try clear hx6
                                try clear qi6
                                try clear c7
                                try clear c14
                                try clear c14b0
                                try clear c14b1
                                try clear c15
                                try clear c15b0
                                try clear c15b1
                                try clear c17
                                try clear c18
                                try clear c18b0
                                try clear c18b1
                                try clear c18b2
                                try clear c19
                                try clear c19b0
                                try clear c19b1
                                try clear c23
                                try clear c28
                                try clear c28b0
                                try clear c28b1
                                try clear c29
                                try clear c30
                                try clear c30b0
                                try clear c32
                                try clear c32b0
                                try clear c32b1
                                try clear c33
                                try clear c33b0
                                try clear c34
                                try clear c34b0
                                try clear c35
                                try clear c35b0
                                try clear c39
                                try clear c39b0
                                try clear c42
                                try clear c42b0
                                try clear c44
                                try clear c44b0
                                try clear c46
                                try clear c46b0
                                try clear c47
                                try clear c47b0
                                try clear c48
                                try clear c48b0
                                try clear c49
                                try clear c49b0
                                try clear c50
                                try clear c51
                                try clear c51b0
                                try clear c52
                                try clear c52b0
                                try clear c54
                                try clear c54b0
                                try clear c54b1
                                try clear c55
                                try clear c55b0
                                try clear c56
                                try clear c56b0
                                try clear c57
                                try clear c57b0
                                try clear c59
                                try clear c59b0
                                try clear c60
                                try clear c60b0
                                try clear c61
                                try clear c61b0
                                try clear p61
                                try clear q61
                                try clear hx61
                                try clear c62
                                try clear c62b0
                                try clear p62
                                try clear q62
                                try clear hx62
                                try clear c63
                                try clear c63b0
                                try clear c63b1
                                try clear p63
                                try clear q63
                                try clear hx63
                                try clear c64
                                try clear c64b0
                                try clear c64b1
                                try clear p64
                                try clear c69
                                try clear c69b0
                                try clear c70
                                try clear c70b0
                                try clear c74
                                try clear c74b0
                                try clear c74b1
                                try clear c75
                                try clear c77
                                try clear c77b0
                                try clear c77b1
                                try clear hcz38_0
                                try clear hcz38_1
                                try clear hcz67_0
                                try clear hcz67_1
                                try clear hfz38_0
                                try clear hfz38_1
                                try clear hfz67_0
                                try clear hfz67_1
                                try clear hx612_0
                                try clear hx619_0
                                try clear hx619_1
                                try clear hx620_0
                                try clear hx621_0
                                try clear hx622_0
                                try clear hx623_0
                                try clear hx628_0
                                try clear hx629_0
                                try clear hx629_1
                                try clear hx630_0
                                try clear hx630_1
                                try clear hx631_0
                                try clear hx632_0
                                try clear hx633_0
                                try clear p2
                                try clear p6
                                try clear p61
                                try clear p612
                                try clear p619
                                try clear p62
                                try clear p620
                                try clear p621
                                try clear p622
                                try clear p623
                                try clear p628
                                try clear p629
                                try clear p63
                                try clear p630
                                try clear p631
                                try clear p632
                                try clear p633
                                try clear p64
                                try clear q6
                                try clear q61
                                try clear q612
                                try clear q619
                                try clear q62
                                try clear q620
                                try clear q621
                                try clear q622
                                try clear q623
                                try clear q628
                                try clear q629
                                try clear q63
                                try clear q630
                                try clear q631
                                try clear q632
                                try clear q633
                                obtain ⟨kq, x231_75, rfl, HA, HJ75, HO_5, HB⟩ := hcut
                                cases kq with
                                | zero => exact absurd HA.out (by simp [droppertop_TopWear.j9])
                                | succ kj75 =>
                                  have H := HA.out; clear HA; simp only [droppertop_TopWear.j9] at H; have HC78 := Aside0.mk H; clear H
                                  go_upto_if 231 with (fail)
                                  repeat (go_quiet (fail); go_upto_if 231 with (fail))
                                  go_cut [] (fun wc => ∃ (kq : Nat), Aside0 (droppertop_TopWear.j11 kq l0 l1 t603 = some r) ∧ Aside0 (kq ≤ kj75) ∧ Aside0 (Kd.R k35 35 wc w.heap.size (fun _ => True) (.slice Ao26 t603.length co26) t603) ∧ Aside0 (Below w.heap.size w wc))
                                  case first => as_aux_lemma =>
                                    have H := HC78.out; clear HC78; by_cases c79 : x231_75 = true; rotate_left
                                    · replace c79 := Bool.eq_false_iff.mpr c79; subst c79; rw [if_neg (show ¬ (false = true) by decide)] at H; have H' := Aside0.mk H; clear H
                                      go_wp2
                                      repeat (go_quiet (fail); try go_wp2)
                                      go_meet
                                      case rel => exact ⟨_, H', ⟨by have := HJ2.out; have := HJ10.out; have := HJ24.out; have := HK4.out; have := HK5.out; have := HK6.out; have := HJ71.out; have := HJ75.out; first | omega | exact Nat.le_refl _⟩, ⟨by (with_reducible repeat (first | apply Kd.R_alloc | apply Kd.R_drewN | apply Kd.R_drew)); exact HO_5.out⟩, ⟨by repeat (first | (with_reducible first | exact HB.out | apply below_alloc | apply pw_below_drewN | apply below_drew1) | exact HB.out)⟩⟩
                                    subst c79; rw [if_pos rfl] at H; have H' := Aside0.mk H; clear H
                                    go_wp2
                                    repeat (go_quiet (fail); try go_wp2)
                                    go_loopg [21] kj75 (fun kq v21 w' => ∃ (x21_9 : Int), v21 = .int .i64 x21_9 ∧ Aside0 (droppertop_TopWear.l3 kq l0 l1 t603 x21_9 = some r) ∧ Aside0 (kq ≤ kj75) ∧ Aside0 (Kd.R k35 35 w' w.heap.size (fun _ => True) (.slice Ao26 t603.length co26) t603) ∧ Aside0 (Below w.heap.size w w'))
                                    case atStart => exact ⟨(0), (by first | rfl | (simp; done) | (simp [*]; done)), H', ⟨Nat.le_refl _⟩, ⟨by (with_reducible repeat (first | apply Kd.R_alloc | apply Kd.R_drewN | apply Kd.R_drew)); exact HO_5.out⟩, ⟨by repeat (first | (with_reducible first | exact HB.out | apply below_alloc | apply pw_below_drewN | apply below_drew1) | exact HB.out)⟩⟩
                                    case round =>
                                      clear H'
                                      try clear c1
                                      try clear c2
                                      try clear p2
                                      try clear c3
                                      try clear c4
                                      try clear c5
                                      try clear c6
                                      try clear p6
                                      try clear q6
                                      try clear hx6
                                      try clear qi6
                                      try clear c7
                                      try clear c14
                                      try clear c14b0
                                      try clear c14b1
                                      try clear c15
                                      try clear c15b0
                                      try clear c15b1
                                      try clear c17
                                      try clear c18
                                      try clear c18b0
                                      try clear c18b1
                                      try clear c18b2
                                      try clear c19
                                      try clear c19b0
                                      try clear c19b1
                                      try clear c23
                                      try clear c28
                                      try clear c28b0
                                      try clear c28b1
                                      try clear c29
                                      try clear c30
                                      try clear c30b0
                                      try clear c32
                                      try clear c32b0
                                      try clear c32b1
                                      try clear c33
                                      try clear c33b0
                                      try clear c34
                                      try clear c34b0
                                      try clear c35
                                      try clear c35b0
                                      try clear c39
                                      try clear c39b0
                                      try clear c42
                                      try clear c42b0
                                      try clear c44
                                      try clear c44b0
                                      try clear c46
                                      try clear c46b0
                                      try clear c47
                                      try clear c47b0
                                      try clear c48
                                      try clear c48b0
                                      try clear c49
                                      try clear c49b0
                                      try clear c50
                                      try clear c51
                                      try clear c51b0
                                      try clear c52
                                      try clear c52b0
                                      try clear c54
                                      try clear c54b0
                                      try clear c54b1
                                      try clear c55
                                      try clear c55b0
                                      try clear c56
                                      try clear c56b0
                                      try clear c57
                                      try clear c57b0
                                      try clear c59
                                      try clear c59b0
                                      try clear c60
                                      try clear c60b0
                                      try clear c61
                                      try clear c61b0
                                      try clear p61
                                      try clear q61
                                      try clear hx61
                                      try clear c62
                                      try clear c62b0
                                      try clear p62
                                      try clear q62
                                      try clear hx62
                                      try clear c63
                                      try clear c63b0
                                      try clear c63b1
                                      try clear p63
                                      try clear q63
                                      try clear hx63
                                      try clear c64
                                      try clear c64b0
                                      try clear c64b1
                                      try clear p64
                                      try clear c69
                                      try clear c69b0
                                      try clear c70
                                      try clear c70b0
                                      try clear c74
                                      try clear c74b0
                                      try clear c74b1
                                      try clear c75
                                      try clear c77
                                      try clear c77b0
                                      try clear c77b1
                                      try clear c79
                                      try clear hcz38_0
                                      try clear hcz38_1
                                      try clear hcz67_0
                                      try clear hcz67_1
                                      try clear hfz38_0
                                      try clear hfz38_1
                                      try clear hfz67_0
                                      try clear hfz67_1
                                      try clear hx612_0
                                      try clear hx619_0
                                      try clear hx619_1
                                      try clear hx620_0
                                      try clear hx621_0
                                      try clear hx622_0
                                      try clear hx623_0
                                      try clear hx628_0
                                      try clear hx629_0
                                      try clear hx629_1
                                      try clear hx630_0
                                      try clear hx630_1
                                      try clear hx631_0
                                      try clear hx632_0
                                      try clear hx633_0
                                      try clear p2
                                      try clear p6
                                      try clear p61
                                      try clear p612
                                      try clear p619
                                      try clear p62
                                      try clear p620
                                      try clear p621
                                      try clear p622
                                      try clear p623
                                      try clear p628
                                      try clear p629
                                      try clear p63
                                      try clear p630
                                      try clear p631
                                      try clear p632
                                      try clear p633
                                      try clear p64
                                      try clear q6
                                      try clear q61
                                      try clear q612
                                      try clear q619
                                      try clear q62
                                      try clear q620
                                      try clear q621
                                      try clear q622
                                      try clear q623
                                      try clear q628
                                      try clear q629
                                      try clear q63
                                      try clear q630
                                      try clear q631
                                      try clear q632
                                      try clear q633
                                      obtain ⟨x21_9, rfl, HA, HK9, HO_5, HB⟩ := hrel
                                      cases gk with
                                      | zero => exact absurd HA.out (by simp [droppertop_TopWear.l3])
                                      | succ k9 =>
                                        have H := HA.out; clear HA; simp only [droppertop_TopWear.l3] at H; by_cases c80 : x21_9 < (l0.length : Int); rotate_left
                                        · rw [if_neg c80] at H; have c80b0 : decide (x21_9 < (l0.length : Int)) = false := decide_eq_false c80; clear c80
                                          (first | rw [c80b0] | (simp only [i64_w, i32_w]; rw [c80b0]) | skip)
                                          have H' := Aside0.mk H; clear H
                                          go_wp2
                                          repeat (go_quiet (fail); try go_wp2)
                                          go_meet
                                          case rel => exact ⟨_, H', ⟨by have := HJ2.out; have := HJ10.out; have := HJ24.out; have := HK4.out; have := HK5.out; have := HK6.out; have := HJ71.out; have := HJ75.out; have := HK9.out; first | omega | exact Nat.le_refl _⟩, ⟨by (with_reducible repeat (first | apply Kd.R_alloc | apply Kd.R_drewN | apply Kd.R_drew)); exact HO_5.out⟩, ⟨by repeat (first | (with_reducible first | exact HB.out | apply below_alloc | apply pw_below_drewN | apply below_drew1) | exact HB.out)⟩⟩
                                        rw [if_pos c80] at H; have c80b0 : decide (x21_9 < (l0.length : Int)) = true := decide_eq_true c80; clear c80
                                        (first | rw [c80b0] | (simp only [i64_w, i32_w]; rw [c80b0]) | skip)
                                        by_cases c81 : 0 ≤ x21_9; rotate_left
                                        · rw [if_neg c81] at H
                                          exact absurd H (by simp)
                                        rw [if_pos c81] at H; have c81b0 : decide (0 ≤ x21_9) = true := decide_eq_true c81; clear c81; by_cases c82 : x21_9 < (t603.length : Int); rotate_left
                                        · rw [if_neg c82] at H
                                          exact absurd H (by simp)
                                        rw [if_pos c82] at H; have c82b0 : decide (x21_9 < (t603.length : Int)) = true := decide_eq_true c82; clear c82
                                        by_cases c83 : (!(((rd_T35 t603 x21_9).f0) == (rd l0 x21_9)) || (!(((rd_T35 t603 x21_9).f1) == 1))) = true
                                        · rw [if_pos c83] at H
                                          have c83b0 : (!(((rd_T35 t603 x21_9).f0) == (rd l0 x21_9)) || (!(((rd_T35 t603 x21_9).f1) == 1))) = true := c83
                                          clear c83
                                          exact absurd (hT.symm.trans (Option.some.inj H).symm) (by decide)
                                        rw [if_neg c83] at H
                                        have c83b0 : (!(((rd_T35 t603 x21_9).f0) == (rd l0 x21_9)) || (!(((rd_T35 t603 x21_9).f1) == 1))) = false := by simpa using c83
                                        clear c83; have H' := Aside0.mk H; clear H
                                        have p636 : 0 ≤ (x21_9 : Int) := of_decide_eq_true (by first | (with_reducible assumption) | assumption)
                                        have q636 : x21_9 < (t603.length : Int) := of_decide_eq_true (by first | (with_reducible assumption) | assumption)
                                        obtain ⟨ad636, e636, hx636_0, hx636_1⟩ := at_T35 (Kd.R_reads' HO_5.out).2.2 x21_9 p636 q636
                                        cases e636
                                        replace p636 := eq_true p636; replace q636 := eq_true q636
                                        have p637 : 0 ≤ (x21_9 : Int) := of_decide_eq_true (by first | (with_reducible assumption) | assumption)
                                        have q637 : x21_9 < (l0.length : Int) := of_decide_eq_true (by first | (with_reducible assumption) | assumption)
                                        obtain ⟨ad637, e637, hx637_0⟩ := Kd.at_int HR0.out x21_9 p637 q637
                                        cases e637
                                        replace hx637_0 := (HB.out.cell (World.block_lt_of_cell? w _ hx637_0)).trans hx637_0; replace p637 := eq_true p637; replace q637 := eq_true q637
                                        go_wp2
                                        repeat (go_quiet (fail); try go_wp2)
                                        go_roundg k9
                                        case measure => have := HJ2.out; have := HJ10.out; have := HJ24.out; have := HK4.out; have := HK5.out; have := HK6.out; have := HJ71.out; have := HJ75.out; have := HK9.out; omega
                                        case rel => exact ⟨(wrap64 (x21_9 + 1)), (by first | rfl | (simp; done) | (simp [*]; done)), H', ⟨by have := HJ2.out; have := HJ10.out; have := HJ24.out; have := HK4.out; have := HK5.out; have := HK6.out; have := HJ71.out; have := HJ75.out; have := HK9.out; omega⟩, ⟨by (with_reducible repeat (first | apply Kd.R_alloc | apply Kd.R_drewN | apply Kd.R_drew)); exact HO_5.out⟩, ⟨by repeat (first | (with_reducible first | exact HB.out | apply below_alloc | apply pw_below_drewN | apply below_drew1) | exact HB.out)⟩⟩
                                  case rest => as_aux_lemma =>
                                    clear HC78
                                    try clear c1
                                    try clear c2
                                    try clear p2
                                    try clear c3
                                    try clear c4
                                    try clear c5
                                    try clear c6
                                    try clear p6
                                    try clear q6
                                    try clear hx6
                                    try clear qi6
                                    try clear c7
                                    try clear c8
                                    try clear c14
                                    try clear c14b0
                                    try clear c14b1
                                    try clear c15
                                    try clear c15b0
                                    try clear c15b1
                                    try clear c17
                                    try clear c18
                                    try clear c18b0
                                    try clear c18b1
                                    try clear c18b2
                                    try clear c19
                                    try clear c19b0
                                    try clear c19b1
                                    try clear c23
                                    try clear c28
                                    try clear c28b0
                                    try clear c28b1
                                    try clear c29
                                    try clear c30
                                    try clear c30b0
                                    try clear c32
                                    try clear c32b0
                                    try clear c32b1
                                    try clear c33
                                    try clear c33b0
                                    try clear c34
                                    try clear c34b0
                                    try clear c35
                                    try clear c35b0
                                    try clear c39
                                    try clear c39b0
                                    try clear c42
                                    try clear c42b0
                                    try clear c44
                                    try clear c44b0
                                    try clear c46
                                    try clear c46b0
                                    try clear c47
                                    try clear c47b0
                                    try clear c48
                                    try clear c48b0
                                    try clear c49
                                    try clear c49b0
                                    try clear c50
                                    try clear c51
                                    try clear c51b0
                                    try clear c52
                                    try clear c52b0
                                    try clear c54
                                    try clear c54b0
                                    try clear c54b1
                                    try clear c55
                                    try clear c55b0
                                    try clear c56
                                    try clear c56b0
                                    try clear c57
                                    try clear c57b0
                                    try clear c59
                                    try clear c59b0
                                    try clear c60
                                    try clear c60b0
                                    try clear c61
                                    try clear c61b0
                                    try clear p61
                                    try clear q61
                                    try clear hx61
                                    try clear c62
                                    try clear c62b0
                                    try clear p62
                                    try clear q62
                                    try clear hx62
                                    try clear c63
                                    try clear c63b0
                                    try clear c63b1
                                    try clear p63
                                    try clear q63
                                    try clear hx63
                                    try clear c64
                                    try clear c64b0
                                    try clear c64b1
                                    try clear p64
                                    try clear c69
                                    try clear c69b0
                                    try clear c70
                                    try clear c70b0
                                    try clear c74
                                    try clear c74b0
                                    try clear c74b1
                                    try clear c75
                                    try clear c77
                                    try clear c77b0
                                    try clear c77b1
                                    try clear c79
                                    try clear c80
                                    try clear c80b0
                                    try clear c81
                                    try clear c81b0
                                    try clear c82
                                    try clear c82b0
                                    try clear c83
                                    try clear c83b0
                                    try clear hcz38_0
                                    try clear hcz38_1
                                    try clear hcz67_0
                                    try clear hcz67_1
                                    try clear hfz38_0
                                    try clear hfz38_1
                                    try clear hfz67_0
                                    try clear hfz67_1
                                    try clear hx612_0
                                    try clear hx619_0
                                    try clear hx619_1
                                    try clear hx620_0
                                    try clear hx621_0
                                    try clear hx622_0
                                    try clear hx623_0
                                    try clear hx628_0
                                    try clear hx629_0
                                    try clear hx629_1
                                    try clear hx630_0
                                    try clear hx630_1
                                    try clear hx631_0
                                    try clear hx632_0
                                    try clear hx633_0
                                    try clear hx636_0
                                    try clear hx636_1
                                    try clear hx637_0
                                    try clear p2
                                    try clear p6
                                    try clear p61
                                    try clear p612
                                    try clear p619
                                    try clear p62
                                    try clear p620
                                    try clear p621
                                    try clear p622
                                    try clear p623
                                    try clear p628
                                    try clear p629
                                    try clear p63
                                    try clear p630
                                    try clear p631
                                    try clear p632
                                    try clear p633
                                    try clear p636
                                    try clear p637
                                    try clear p64
                                    try clear q6
                                    try clear q61
                                    try clear q612
                                    try clear q619
                                    try clear q62
                                    try clear q620
                                    try clear q621
                                    try clear q622
                                    try clear q623
                                    try clear q628
                                    try clear q629
                                    try clear q63
                                    try clear q630
                                    try clear q631
                                    try clear q632
                                    try clear q633
                                    try clear q636
                                    try clear q637
                                    obtain ⟨kq, HA, HJ77, HO_5, HB⟩ := hcut
                                    cases kq with
                                    | zero => exact absurd HA.out (by simp [droppertop_TopWear.j11])
                                    | succ kj77 =>
                                      have H := HA.out; clear HA; simp only [droppertop_TopWear.j11] at H; replace H := Option.bind_eq_some_iff.mp H; obtain ⟨⟨t638, t639⟩, A840, H⟩ := H; (try dsimp only at H); have A84 := Aside0.mk A840; clear A840; have HC85 := Aside0.mk H; clear H
                                      go_upto_region 43 with (first | (go_at_call 13; (with_reducible refine (dropperref07_Grows.calls kj77 _ _ l0 _ _ l1 t638 t639 _ ?side1 ?side2 ?side3 ?side4 A84.out).mono ?_); (case side1 => repeat (first | exact (Kd.C_below HR0.out HB.out) | (with_reducible refine Kd.C_alloc ?_ _) | (with_reducible refine Kd.C_drewN ?_ _) | (with_reducible refine Kd.C_drew ?_))); (case side2 => exact HC0.out); (case side3 => repeat (first | exact (Kd.C_below HR1.out HB.out) | (with_reducible refine Kd.C_alloc ?_ _) | (with_reducible refine Kd.C_drewN ?_ _) | (with_reducible refine Kd.C_drew ?_))); (case side4 => exact HC1.out); rintro e w86 ⟨rfl, hb⟩; have n0_ := Aside0.mk (Kd.R_below (by (with_reducible repeat (first | apply Kd.R_alloc | apply Kd.R_drewN | apply Kd.R_drew)); exact HO_5.out) hb); have n1_ := Aside0.mk (below_step (by repeat (first | (with_reducible first | exact HB.out | apply below_alloc | apply pw_below_drewN | apply below_drew1) | exact HB.out)) hb); clear HO_5; clear HB; have HO_5 := n0_; have HB := n1_; clear n0_ n1_; (try clear hb); (try clear hb2); (try clear hk); (try clear hi)))
                                      repeat (go_quiet (first | (go_at_call 13; (with_reducible refine (dropperref07_Grows.calls kj77 _ _ l0 _ _ l1 t638 t639 _ ?side1 ?side2 ?side3 ?side4 A84.out).mono ?_); (case side1 => repeat (first | exact (Kd.C_below HR0.out HB.out) | (with_reducible refine Kd.C_alloc ?_ _) | (with_reducible refine Kd.C_drewN ?_ _) | (with_reducible refine Kd.C_drew ?_))); (case side2 => exact HC0.out); (case side3 => repeat (first | exact (Kd.C_below HR1.out HB.out) | (with_reducible refine Kd.C_alloc ?_ _) | (with_reducible refine Kd.C_drewN ?_ _) | (with_reducible refine Kd.C_drew ?_))); (case side4 => exact HC1.out); rintro e w86 ⟨rfl, hb⟩; have n0_ := Aside0.mk (Kd.R_below (by (with_reducible repeat (first | apply Kd.R_alloc | apply Kd.R_drewN | apply Kd.R_drew)); exact HO_5.out) hb); have n1_ := Aside0.mk (below_step (by repeat (first | (with_reducible first | exact HB.out | apply below_alloc | apply pw_below_drewN | apply below_drew1) | exact HB.out)) hb); clear HO_5; clear HB; have HO_5 := n0_; have HB := n1_; clear n0_ n1_; (try clear hb); (try clear hb2); (try clear hk); (try clear hi))); go_upto_region 43 with (first | (go_at_call 13; (with_reducible refine (dropperref07_Grows.calls kj77 _ _ l0 _ _ l1 t638 t639 _ ?side1 ?side2 ?side3 ?side4 A84.out).mono ?_); (case side1 => repeat (first | exact (Kd.C_below HR0.out HB.out) | (with_reducible refine Kd.C_alloc ?_ _) | (with_reducible refine Kd.C_drewN ?_ _) | (with_reducible refine Kd.C_drew ?_))); (case side2 => exact HC0.out); (case side3 => repeat (first | exact (Kd.C_below HR1.out HB.out) | (with_reducible refine Kd.C_alloc ?_ _) | (with_reducible refine Kd.C_drewN ?_ _) | (with_reducible refine Kd.C_drew ?_))); (case side4 => exact HC1.out); rintro e w86 ⟨rfl, hb⟩; have n0_ := Aside0.mk (Kd.R_below (by (with_reducible repeat (first | apply Kd.R_alloc | apply Kd.R_drewN | apply Kd.R_drew)); exact HO_5.out) hb); have n1_ := Aside0.mk (below_step (by repeat (first | (with_reducible first | exact HB.out | apply below_alloc | apply pw_below_drewN | apply below_drew1) | exact HB.out)) hb); clear HO_5; clear HB; have HO_5 := n0_; have HB := n1_; clear n0_ n1_; (try clear hb); (try clear hb2); (try clear hk); (try clear hi))))
                                      (try simp only [Act.put, List.setIfInBounds_toArray, List.set_cons_zero, List.set_cons_succ])
                                      go_cut [259] (fun v259 wc => ∃ (kq : Nat) (x259_84 : Bool), v259 = .bool x259_84 ∧ Aside0 (droppertop_TopWear.j12 kq l0 l1 t603 x259_84 = some r) ∧ Aside0 (kq ≤ kj77) ∧ Aside0 (Kd.R k35 35 wc w.heap.size (fun _ => True) (.slice Ao26 t603.length co26) t603) ∧ Aside0 (Below w.heap.size w wc))
                                      case first => as_aux_lemma =>
                                        have H := HC85.out; clear HC85; by_cases c87 : t639 = 0; rotate_left
                                        · rw [if_neg c87] at H; have c87b0 : (t639 == 0) = false := beq_eq_false_iff_ne.mpr c87; have c87b1 : (t639 != 0) = true := bne_iff_ne.mpr c87
                                          (first | rw [c87b0] | (simp only [i64_w, i32_w]; rw [c87b0]) | skip)
                                          have H' := Aside0.mk H; clear H
                                          go_wp2
                                          repeat (go_quiet (fail); try go_wp2)
                                          go_meet
                                          case rel => exact ⟨_, (true), (by first | rfl | (simp; done) | (simp [*]; done)), H', ⟨by have := HJ2.out; have := HJ10.out; have := HJ24.out; have := HK4.out; have := HK5.out; have := HK6.out; have := HJ71.out; have := HJ75.out; have := HJ77.out; first | omega | exact Nat.le_refl _⟩, ⟨by (with_reducible repeat (first | apply Kd.R_alloc | apply Kd.R_drewN | apply Kd.R_drew)); exact HO_5.out⟩, ⟨by repeat (first | (with_reducible first | exact HB.out | apply below_alloc | apply pw_below_drewN | apply below_drew1) | exact HB.out)⟩⟩
                                        rw [if_pos c87] at H; have c87b0 : (t639 == 0) = true := beq_iff_eq.mpr c87; have c87b1 : (t639 != 0) = false := bne_eq_false_iff_eq.mpr c87; clear c87
                                        (first | rw [c87b0] | (simp only [i64_w, i32_w]; rw [c87b0]) | skip)
                                        have H' := Aside0.mk H; clear H
                                        go_wp2
                                        repeat (go_quiet (fail); try go_wp2)
                                        go_meet
                                        case rel => exact ⟨_, (!t638), (by first | rfl | (simp; done) | (simp [*]; done)), H', ⟨by have := HJ2.out; have := HJ10.out; have := HJ24.out; have := HK4.out; have := HK5.out; have := HK6.out; have := HJ71.out; have := HJ75.out; have := HJ77.out; first | omega | exact Nat.le_refl _⟩, ⟨by (with_reducible repeat (first | apply Kd.R_alloc | apply Kd.R_drewN | apply Kd.R_drew)); exact HO_5.out⟩, ⟨by repeat (first | (with_reducible first | exact HB.out | apply below_alloc | apply pw_below_drewN | apply below_drew1) | exact HB.out)⟩⟩
                                      case rest => as_aux_lemma =>
                                        clear HC85
                                        try clear c1
                                        try clear c2
                                        try clear p2
                                        try clear c3
                                        try clear c4
                                        try clear c5
                                        try clear c6
                                        try clear p6
                                        try clear q6
                                        try clear hx6
                                        try clear qi6
                                        try clear c7
                                        try clear c8
                                        try clear c14
                                        try clear c14b0
                                        try clear c14b1
                                        try clear c15
                                        try clear c15b0
                                        try clear c15b1
                                        try clear c17
                                        try clear c18
                                        try clear c18b0
                                        try clear c18b1
                                        try clear c18b2
                                        try clear c19
                                        try clear c19b0
                                        try clear c19b1
                                        try clear c23
                                        try clear c28
                                        try clear c28b0
                                        try clear c28b1
                                        try clear c29
                                        try clear c30
                                        try clear c30b0
                                        try clear c32
                                        try clear c32b0
                                        try clear c32b1
                                        try clear c33
                                        try clear c33b0
                                        try clear c34
                                        try clear c34b0
                                        try clear c35
                                        try clear c35b0
                                        try clear c39
                                        try clear c39b0
                                        try clear c42
                                        try clear c42b0
                                        try clear c44
                                        try clear c44b0
                                        try clear c46
                                        try clear c46b0
                                        try clear c47
                                        try clear c47b0
                                        try clear c48
                                        try clear c48b0
                                        try clear c49
                                        try clear c49b0
                                        try clear c50
                                        try clear c51
                                        try clear c51b0
                                        try clear c52
                                        try clear c52b0
                                        try clear c54
                                        try clear c54b0
                                        try clear c54b1
                                        try clear c55
                                        try clear c55b0
                                        try clear c56
                                        try clear c56b0
                                        try clear c57
                                        try clear c57b0
                                        try clear c59
                                        try clear c59b0
                                        try clear c60
                                        try clear c60b0
                                        try clear c61
                                        try clear c61b0
                                        try clear p61
                                        try clear q61
                                        try clear hx61
                                        try clear c62
                                        try clear c62b0
                                        try clear p62
                                        try clear q62
                                        try clear hx62
                                        try clear c63
                                        try clear c63b0
                                        try clear c63b1
                                        try clear p63
                                        try clear q63
                                        try clear hx63
                                        try clear c64
                                        try clear c64b0
                                        try clear c64b1
                                        try clear p64
                                        try clear c69
                                        try clear c69b0
                                        try clear c70
                                        try clear c70b0
                                        try clear c74
                                        try clear c74b0
                                        try clear c74b1
                                        try clear c75
                                        try clear c77
                                        try clear c77b0
                                        try clear c77b1
                                        try clear c79
                                        try clear c80
                                        try clear c80b0
                                        try clear c81
                                        try clear c81b0
                                        try clear c82
                                        try clear c82b0
                                        try clear c83
                                        try clear c83b0
                                        try clear c87
                                        try clear c87b0
                                        try clear c87b1
                                        try clear hcz38_0
                                        try clear hcz38_1
                                        try clear hcz67_0
                                        try clear hcz67_1
                                        try clear hfz38_0
                                        try clear hfz38_1
                                        try clear hfz67_0
                                        try clear hfz67_1
                                        try clear hx612_0
                                        try clear hx619_0
                                        try clear hx619_1
                                        try clear hx620_0
                                        try clear hx621_0
                                        try clear hx622_0
                                        try clear hx623_0
                                        try clear hx628_0
                                        try clear hx629_0
                                        try clear hx629_1
                                        try clear hx630_0
                                        try clear hx630_1
                                        try clear hx631_0
                                        try clear hx632_0
                                        try clear hx633_0
                                        try clear hx636_0
                                        try clear hx636_1
                                        try clear hx637_0
                                        try clear p2
                                        try clear p6
                                        try clear p61
                                        try clear p612
                                        try clear p619
                                        try clear p62
                                        try clear p620
                                        try clear p621
                                        try clear p622
                                        try clear p623
                                        try clear p628
                                        try clear p629
                                        try clear p63
                                        try clear p630
                                        try clear p631
                                        try clear p632
                                        try clear p633
                                        try clear p636
                                        try clear p637
                                        try clear p64
                                        try clear q6
                                        try clear q61
                                        try clear q612
                                        try clear q619
                                        try clear q62
                                        try clear q620
                                        try clear q621
                                        try clear q622
                                        try clear q623
                                        try clear q628
                                        try clear q629
                                        try clear q63
                                        try clear q630
                                        try clear q631
                                        try clear q632
                                        try clear q633
                                        try clear q636
                                        try clear q637
                                        obtain ⟨kq, x259_84, rfl, HA, HJ84, HO_5, HB⟩ := hcut
                                        cases kq with
                                        | zero => exact absurd HA.out (by simp [droppertop_TopWear.j12])
                                        | succ kj84 =>
                                          have H := HA.out; clear HA; simp only [droppertop_TopWear.j12] at H; by_cases c88 : x259_84 = true
                                          · subst c88; rw [if_pos rfl] at H; replace H := Option.bind_eq_some_iff.mp H; obtain ⟨t640, A890, H⟩ := H; (try dsimp only at H); have A89 := Aside0.mk A890; clear A890 hT; obtain rfl := Option.some.inj H
                                            go_wp2_with (first | (go_at_call 5; (with_reducible refine (dropperlaw07_First.calls kj84  t640 _ A89.out).mono ?_); rintro e w90 ⟨rfl, hb⟩; have n0_ := Aside0.mk (Kd.R_below (by (with_reducible repeat (first | apply Kd.R_alloc | apply Kd.R_drewN | apply Kd.R_drew)); exact HO_5.out) hb); have n1_ := Aside0.mk (below_step (by repeat (first | (with_reducible first | exact HB.out | apply below_alloc | apply pw_below_drewN | apply below_drew1) | exact HB.out)) hb); clear HO_5; clear HB; have HO_5 := n0_; have HB := n1_; clear n0_ n1_; (try clear hb); (try clear hb2); (try clear hk); (try clear hi)))
                                            repeat (go_quiet (first | (go_at_call 5; (with_reducible refine (dropperlaw07_First.calls kj84  t640 _ A89.out).mono ?_); rintro e w90 ⟨rfl, hb⟩; have n0_ := Aside0.mk (Kd.R_below (by (with_reducible repeat (first | apply Kd.R_alloc | apply Kd.R_drewN | apply Kd.R_drew)); exact HO_5.out) hb); have n1_ := Aside0.mk (below_step (by repeat (first | (with_reducible first | exact HB.out | apply below_alloc | apply pw_below_drewN | apply below_drew1) | exact HB.out)) hb); clear HO_5; clear HB; have HO_5 := n0_; have HB := n1_; clear n0_ n1_; (try clear hb); (try clear hb2); (try clear hk); (try clear hi))); try go_wp2_with (first | (go_at_call 5; (with_reducible refine (dropperlaw07_First.calls kj84  t640 _ A89.out).mono ?_); rintro e w90 ⟨rfl, hb⟩; have n0_ := Aside0.mk (Kd.R_below (by (with_reducible repeat (first | apply Kd.R_alloc | apply Kd.R_drewN | apply Kd.R_drew)); exact HO_5.out) hb); have n1_ := Aside0.mk (below_step (by repeat (first | (with_reducible first | exact HB.out | apply below_alloc | apply pw_below_drewN | apply below_drew1) | exact HB.out)) hb); clear HO_5; clear HB; have HO_5 := n0_; have HB := n1_; clear n0_ n1_; (try clear hb); (try clear hb2); (try clear hk); (try clear hi))))
                                            go_ret
                                            exact ⟨by first | rfl | (simp [errW_none, errW_some] <;> rfl) | (simp [*, errW_none, errW_some] <;> rfl), by repeat (first | (with_reducible first | exact HB.out | apply below_alloc | apply pw_below_drewN | apply below_drew1) | exact HB.out)⟩
                                          replace c88 := Bool.eq_false_iff.mpr c88; subst c88; rw [if_neg (show ¬ (false = true) by decide)] at H; replace H := Option.bind_eq_some_iff.mp H; obtain ⟨⟨t641, t642, t643⟩, A910, H⟩ := H; (try dsimp only at H); have A91 := Aside0.mk A910; clear A910; replace H := Option.bind_eq_some_iff.mp H; obtain ⟨⟨t645, t646, t647⟩, A920, H⟩ := H; (try dsimp only at H); have A92 := Aside0.mk A920; clear A920; have HC93 := Aside0.mk H; clear H
                                          go_upto_region 47 with (first | (go_at_call 14; (with_reducible refine (wear_Error.calls kj84 _ _ l0 _ _ t603 t641 t642 t643 _ ?side1 ?side2 ?side3 ?side4 A91.out).mono ?_); (case side1 => repeat (first | exact (Kd.C_below HR0.out HB.out) | (with_reducible refine Kd.C_alloc ?_ _) | (with_reducible refine Kd.C_drewN ?_ _) | (with_reducible refine Kd.C_drew ?_))); (case side2 => exact HC0.out); (case side3 => repeat (first | exact (Kd.R_reads' HO_5.out).2.2 | (with_reducible refine Kd.C_alloc ?_ _) | (with_reducible refine Kd.C_drewN ?_ _) | (with_reducible refine Kd.C_drew ?_))); (case side4 => exact (Kd.R_reads' HO_5.out).2.1); rintro e w94 ⟨rfl, hb⟩; have n0_ := Aside0.mk (Kd.R_below (by (with_reducible repeat (first | apply Kd.R_alloc | apply Kd.R_drewN | apply Kd.R_drew)); exact HO_5.out) hb); have n1_ := Aside0.mk (below_step (by repeat (first | (with_reducible first | exact HB.out | apply below_alloc | apply pw_below_drewN | apply below_drew1) | exact HB.out)) hb); clear HO_5; clear HB; have HO_5 := n0_; have HB := n1_; clear n0_ n1_; (try clear hb); (try clear hb2); (try clear hk); (try clear hi)) | ((with_reducible refine gate_dst (N := 23) rfl ?_); (try (refine gate_guard (by rfl) ?_; dsimp only)); refine box_event ?hg (N := 23) ?hd (cs := #[.int .i64 0, .int .i64 0]) (t := 35) ?hr ?_; (case hd => rfl); (case hg => rfl); (case hr => first | (go_simp; done) | (go_simp; rfl)); intro gb644 hg w95 hbox hb; have n0_ := Aside0.mk (Kd.R_below (Kd.R_elderB (by (with_reducible repeat (first | apply Kd.R_alloc | apply Kd.R_drewN | apply Kd.R_drew)); exact HO_5.out) gb644 (Nat.le_of_eq hg.symm)) hb); have n1_ := Aside0.mk (below_step (by repeat (first | (with_reducible first | exact HB.out | apply below_alloc | apply pw_below_drewN | apply below_drew1) | exact HB.out)) hb); have n2_ := Aside0.mk (hbox); have n3_ := Aside0.mk ((by rw [hg]; exact (below_size (by repeat (first | (with_reducible first | exact HB.out | apply below_alloc | apply pw_below_drewN | apply below_drew1) | exact HB.out))) : w.heap.size ≤ gb644)); have n4_ := Aside0.mk ((by rw [hg]; exact (below_size (by repeat (first | (with_reducible first | exact HB.out | apply below_alloc | apply pw_below_drewN | apply below_drew1) | exact HB.out))) : w.heap.size ≤ gb644)); clear HO_5; clear HB; have HO_5 := n0_; have HB := n1_; have BK644 := n2_; have GW644 := n3_; have GE644 := n4_; clear n0_ n1_ n2_ n3_ n4_; clear hb hbox hg; have hcz96_0 : w95.cell? ⟨gb644, 0, none⟩ = some (.int .i64 0) := (blk_cell BK644.out 0).trans rfl; have hcz96_1 : w95.cell? ⟨gb644, 1, none⟩ = some (.int .i64 0) := (blk_cell BK644.out 1).trans rfl; have hfz96_0 := blk_frozen BK644.out 0; have hfz96_1 := blk_frozen BK644.out 1) | (go_at_call 15; (with_reducible refine (dropperref07_Error.calls kj84 _ _ l0 _ _ l1 t645 t646 t647 _ ?side1 ?side2 ?side3 ?side4 A92.out).mono ?_); (case side1 => exact Kd.C_below HR0.out (by repeat (first | (with_reducible first | exact HB.out | apply below_alloc | apply pw_below_drewN | apply below_drew1 | refine below_set ?_ GE644.out) | exact HB.out))); (case side2 => exact HC0.out); (case side3 => exact Kd.C_below HR1.out (by repeat (first | (with_reducible first | exact HB.out | apply below_alloc | apply pw_below_drewN | apply below_drew1 | refine below_set ?_ GE644.out) | exact HB.out))); (case side4 => exact HC1.out); rintro e w97 ⟨rfl, hb⟩; have n0_ := Aside0.mk (Kd.R_below (by (with_reducible repeat (first | apply Kd.R_alloc | apply Kd.R_drewN | apply Kd.R_drew)); exact (Kd.R_mono (Kd.R_far (p := ⟨gb644, 1, none⟩) (Kd.R_far (p := ⟨gb644, 0, none⟩) (Kd.R_mono HO_5.out (fun k_ hk => (⟨hk, hk.2⟩ : _ ∧ k_ ≠ gb644))) (fun _ hk => hk.2) (.int .i64 t641)) (fun _ hk => hk.2) (.int .i64 t642)) (fun _ h_ => h_.1))) hb); have n1_ := Aside0.mk (blk_below (g := gb644) (o := .cells #[.int .i64 t641, .int .i64 t642] 35 (0, 0)) (by (with_reducible repeat (first | refine blk_drewN ?_ _ | refine blk_drew ?_ | refine blk_alloc ?_ _)); refine blk_put (cs := #[.int .i64 t641, .int .i64 0]) ?_ 1 _ rfl; (with_reducible repeat (first | refine blk_drewN ?_ _ | refine blk_drew ?_ | refine blk_alloc ?_ _)); refine blk_put (cs := #[.int .i64 0, .int .i64 0]) ?_ 0 _ rfl; (with_reducible repeat (first | refine blk_drewN ?_ _ | refine blk_drew ?_ | refine blk_alloc ?_ _)); exact BK644.out) hb); have n2_ := Aside0.mk (below_step (by repeat (first | (with_reducible first | exact HB.out | apply below_alloc | apply pw_below_drewN | apply below_drew1 | refine below_set ?_ GE644.out) | exact HB.out)) hb); clear HO_5; clear BK644; clear HB; have HO_5 := n0_; have BK644 := n1_; have HB := n2_; clear n0_ n1_ n2_; (try clear hb); (try clear hb2); (try clear hk); (try clear hi)) | ((with_reducible refine gate_dst (N := 24) rfl ?_); (try (refine gate_guard (by rfl) ?_; dsimp only)); refine box_event ?hg (N := 24) ?hd (cs := #[.int .i64 0, .int .i64 0]) (t := 35) ?hr ?_; (case hd => rfl); (case hg => rfl); (case hr => first | (go_simp; done) | (go_simp; rfl)); intro gb648 hg w98 hbox hb; have n0_ := Aside0.mk (Kd.R_below (Kd.R_elderB (by (with_reducible repeat (first | apply Kd.R_alloc | apply Kd.R_drewN | apply Kd.R_drew)); exact HO_5.out) gb648 (Nat.le_of_eq hg.symm)) hb); have n1_ := Aside0.mk (bkB BK644 hb); have n2_ := Aside0.mk (below_step (by repeat (first | (with_reducible first | exact HB.out | apply below_alloc | apply pw_below_drewN | apply below_drew1 | refine below_set ?_ GE644.out) | exact HB.out)) hb); have n3_ := Aside0.mk (hbox); have n4_ := Aside0.mk ((by rw [hg]; exact (below_size (by repeat (first | (with_reducible first | exact HB.out | apply below_alloc | apply pw_below_drewN | apply below_drew1 | refine below_set ?_ GE644.out) | exact HB.out))) : w.heap.size ≤ gb648)); have n5_ := Aside0.mk ((by rw [hg]; exact (below_size (by repeat (first | (with_reducible first | exact HB.out | apply below_alloc | apply pw_below_drewN | apply below_drew1 | refine below_set ?_ GE644.out) | exact HB.out))) : w.heap.size ≤ gb648)); have n6_ := Aside0.mk ((bkL BK644 hg : gb644 ≠ gb648)); have n7_ := Aside0.mk ((bkG BK644 hg : gb648 ≠ gb644)); clear HO_5; clear BK644; clear HB; have HO_5 := n0_; have BK644 := n1_; have HB := n2_; have BK648 := n3_; have GW648 := n4_; have GE648 := n5_; have NB644_648 := n6_; have NB648_644 := n7_; clear n0_ n1_ n2_ n3_ n4_ n5_ n6_ n7_; clear hb hbox hg; have hnb99 := NB648_644.out; have hnc99 := NB644_648.out; have hcz100_0 : w98.cell? ⟨gb648, 0, none⟩ = some (.int .i64 0) := (blk_cell BK648.out 0).trans rfl; have hcz100_1 : w98.cell? ⟨gb648, 1, none⟩ = some (.int .i64 0) := (blk_cell BK648.out 1).trans rfl; have hfz100_0 := blk_frozen BK648.out 0; have hfz100_1 := blk_frozen BK648.out 1))
                                          repeat (go_quiet (first | (go_at_call 14; (with_reducible refine (wear_Error.calls kj84 _ _ l0 _ _ t603 t641 t642 t643 _ ?side1 ?side2 ?side3 ?side4 A91.out).mono ?_); (case side1 => repeat (first | exact (Kd.C_below HR0.out HB.out) | (with_reducible refine Kd.C_alloc ?_ _) | (with_reducible refine Kd.C_drewN ?_ _) | (with_reducible refine Kd.C_drew ?_))); (case side2 => exact HC0.out); (case side3 => repeat (first | exact (Kd.R_reads' HO_5.out).2.2 | (with_reducible refine Kd.C_alloc ?_ _) | (with_reducible refine Kd.C_drewN ?_ _) | (with_reducible refine Kd.C_drew ?_))); (case side4 => exact (Kd.R_reads' HO_5.out).2.1); rintro e w94 ⟨rfl, hb⟩; have n0_ := Aside0.mk (Kd.R_below (by (with_reducible repeat (first | apply Kd.R_alloc | apply Kd.R_drewN | apply Kd.R_drew)); exact HO_5.out) hb); have n1_ := Aside0.mk (below_step (by repeat (first | (with_reducible first | exact HB.out | apply below_alloc | apply pw_below_drewN | apply below_drew1) | exact HB.out)) hb); clear HO_5; clear HB; have HO_5 := n0_; have HB := n1_; clear n0_ n1_; (try clear hb); (try clear hb2); (try clear hk); (try clear hi)) | ((with_reducible refine gate_dst (N := 23) rfl ?_); (try (refine gate_guard (by rfl) ?_; dsimp only)); refine box_event ?hg (N := 23) ?hd (cs := #[.int .i64 0, .int .i64 0]) (t := 35) ?hr ?_; (case hd => rfl); (case hg => rfl); (case hr => first | (go_simp; done) | (go_simp; rfl)); intro gb644 hg w95 hbox hb; have n0_ := Aside0.mk (Kd.R_below (Kd.R_elderB (by (with_reducible repeat (first | apply Kd.R_alloc | apply Kd.R_drewN | apply Kd.R_drew)); exact HO_5.out) gb644 (Nat.le_of_eq hg.symm)) hb); have n1_ := Aside0.mk (below_step (by repeat (first | (with_reducible first | exact HB.out | apply below_alloc | apply pw_below_drewN | apply below_drew1) | exact HB.out)) hb); have n2_ := Aside0.mk (hbox); have n3_ := Aside0.mk ((by rw [hg]; exact (below_size (by repeat (first | (with_reducible first | exact HB.out | apply below_alloc | apply pw_below_drewN | apply below_drew1) | exact HB.out))) : w.heap.size ≤ gb644)); have n4_ := Aside0.mk ((by rw [hg]; exact (below_size (by repeat (first | (with_reducible first | exact HB.out | apply below_alloc | apply pw_below_drewN | apply below_drew1) | exact HB.out))) : w.heap.size ≤ gb644)); clear HO_5; clear HB; have HO_5 := n0_; have HB := n1_; have BK644 := n2_; have GW644 := n3_; have GE644 := n4_; clear n0_ n1_ n2_ n3_ n4_; clear hb hbox hg; have hcz96_0 : w95.cell? ⟨gb644, 0, none⟩ = some (.int .i64 0) := (blk_cell BK644.out 0).trans rfl; have hcz96_1 : w95.cell? ⟨gb644, 1, none⟩ = some (.int .i64 0) := (blk_cell BK644.out 1).trans rfl; have hfz96_0 := blk_frozen BK644.out 0; have hfz96_1 := blk_frozen BK644.out 1) | (go_at_call 15; (with_reducible refine (dropperref07_Error.calls kj84 _ _ l0 _ _ l1 t645 t646 t647 _ ?side1 ?side2 ?side3 ?side4 A92.out).mono ?_); (case side1 => exact Kd.C_below HR0.out (by repeat (first | (with_reducible first | exact HB.out | apply below_alloc | apply pw_below_drewN | apply below_drew1 | refine below_set ?_ GE644.out) | exact HB.out))); (case side2 => exact HC0.out); (case side3 => exact Kd.C_below HR1.out (by repeat (first | (with_reducible first | exact HB.out | apply below_alloc | apply pw_below_drewN | apply below_drew1 | refine below_set ?_ GE644.out) | exact HB.out))); (case side4 => exact HC1.out); rintro e w97 ⟨rfl, hb⟩; have n0_ := Aside0.mk (Kd.R_below (by (with_reducible repeat (first | apply Kd.R_alloc | apply Kd.R_drewN | apply Kd.R_drew)); exact (Kd.R_mono (Kd.R_far (p := ⟨gb644, 1, none⟩) (Kd.R_far (p := ⟨gb644, 0, none⟩) (Kd.R_mono HO_5.out (fun k_ hk => (⟨hk, hk.2⟩ : _ ∧ k_ ≠ gb644))) (fun _ hk => hk.2) (.int .i64 t641)) (fun _ hk => hk.2) (.int .i64 t642)) (fun _ h_ => h_.1))) hb); have n1_ := Aside0.mk (blk_below (g := gb644) (o := .cells #[.int .i64 t641, .int .i64 t642] 35 (0, 0)) (by (with_reducible repeat (first | refine blk_drewN ?_ _ | refine blk_drew ?_ | refine blk_alloc ?_ _)); refine blk_put (cs := #[.int .i64 t641, .int .i64 0]) ?_ 1 _ rfl; (with_reducible repeat (first | refine blk_drewN ?_ _ | refine blk_drew ?_ | refine blk_alloc ?_ _)); refine blk_put (cs := #[.int .i64 0, .int .i64 0]) ?_ 0 _ rfl; (with_reducible repeat (first | refine blk_drewN ?_ _ | refine blk_drew ?_ | refine blk_alloc ?_ _)); exact BK644.out) hb); have n2_ := Aside0.mk (below_step (by repeat (first | (with_reducible first | exact HB.out | apply below_alloc | apply pw_below_drewN | apply below_drew1 | refine below_set ?_ GE644.out) | exact HB.out)) hb); clear HO_5; clear BK644; clear HB; have HO_5 := n0_; have BK644 := n1_; have HB := n2_; clear n0_ n1_ n2_; (try clear hb); (try clear hb2); (try clear hk); (try clear hi)) | ((with_reducible refine gate_dst (N := 24) rfl ?_); (try (refine gate_guard (by rfl) ?_; dsimp only)); refine box_event ?hg (N := 24) ?hd (cs := #[.int .i64 0, .int .i64 0]) (t := 35) ?hr ?_; (case hd => rfl); (case hg => rfl); (case hr => first | (go_simp; done) | (go_simp; rfl)); intro gb648 hg w98 hbox hb; have n0_ := Aside0.mk (Kd.R_below (Kd.R_elderB (by (with_reducible repeat (first | apply Kd.R_alloc | apply Kd.R_drewN | apply Kd.R_drew)); exact HO_5.out) gb648 (Nat.le_of_eq hg.symm)) hb); have n1_ := Aside0.mk (bkB BK644 hb); have n2_ := Aside0.mk (below_step (by repeat (first | (with_reducible first | exact HB.out | apply below_alloc | apply pw_below_drewN | apply below_drew1 | refine below_set ?_ GE644.out) | exact HB.out)) hb); have n3_ := Aside0.mk (hbox); have n4_ := Aside0.mk ((by rw [hg]; exact (below_size (by repeat (first | (with_reducible first | exact HB.out | apply below_alloc | apply pw_below_drewN | apply below_drew1 | refine below_set ?_ GE644.out) | exact HB.out))) : w.heap.size ≤ gb648)); have n5_ := Aside0.mk ((by rw [hg]; exact (below_size (by repeat (first | (with_reducible first | exact HB.out | apply below_alloc | apply pw_below_drewN | apply below_drew1 | refine below_set ?_ GE644.out) | exact HB.out))) : w.heap.size ≤ gb648)); have n6_ := Aside0.mk ((bkL BK644 hg : gb644 ≠ gb648)); have n7_ := Aside0.mk ((bkG BK644 hg : gb648 ≠ gb644)); clear HO_5; clear BK644; clear HB; have HO_5 := n0_; have BK644 := n1_; have HB := n2_; have BK648 := n3_; have GW648 := n4_; have GE648 := n5_; have NB644_648 := n6_; have NB648_644 := n7_; clear n0_ n1_ n2_ n3_ n4_ n5_ n6_ n7_; clear hb hbox hg; have hnb99 := NB648_644.out; have hnc99 := NB644_648.out; have hcz100_0 : w98.cell? ⟨gb648, 0, none⟩ = some (.int .i64 0) := (blk_cell BK648.out 0).trans rfl; have hcz100_1 : w98.cell? ⟨gb648, 1, none⟩ = some (.int .i64 0) := (blk_cell BK648.out 1).trans rfl; have hfz100_0 := blk_frozen BK648.out 0; have hfz100_1 := blk_frozen BK648.out 1)); go_upto_region 47 with (first | (go_at_call 14; (with_reducible refine (wear_Error.calls kj84 _ _ l0 _ _ t603 t641 t642 t643 _ ?side1 ?side2 ?side3 ?side4 A91.out).mono ?_); (case side1 => repeat (first | exact (Kd.C_below HR0.out HB.out) | (with_reducible refine Kd.C_alloc ?_ _) | (with_reducible refine Kd.C_drewN ?_ _) | (with_reducible refine Kd.C_drew ?_))); (case side2 => exact HC0.out); (case side3 => repeat (first | exact (Kd.R_reads' HO_5.out).2.2 | (with_reducible refine Kd.C_alloc ?_ _) | (with_reducible refine Kd.C_drewN ?_ _) | (with_reducible refine Kd.C_drew ?_))); (case side4 => exact (Kd.R_reads' HO_5.out).2.1); rintro e w94 ⟨rfl, hb⟩; have n0_ := Aside0.mk (Kd.R_below (by (with_reducible repeat (first | apply Kd.R_alloc | apply Kd.R_drewN | apply Kd.R_drew)); exact HO_5.out) hb); have n1_ := Aside0.mk (below_step (by repeat (first | (with_reducible first | exact HB.out | apply below_alloc | apply pw_below_drewN | apply below_drew1) | exact HB.out)) hb); clear HO_5; clear HB; have HO_5 := n0_; have HB := n1_; clear n0_ n1_; (try clear hb); (try clear hb2); (try clear hk); (try clear hi)) | ((with_reducible refine gate_dst (N := 23) rfl ?_); (try (refine gate_guard (by rfl) ?_; dsimp only)); refine box_event ?hg (N := 23) ?hd (cs := #[.int .i64 0, .int .i64 0]) (t := 35) ?hr ?_; (case hd => rfl); (case hg => rfl); (case hr => first | (go_simp; done) | (go_simp; rfl)); intro gb644 hg w95 hbox hb; have n0_ := Aside0.mk (Kd.R_below (Kd.R_elderB (by (with_reducible repeat (first | apply Kd.R_alloc | apply Kd.R_drewN | apply Kd.R_drew)); exact HO_5.out) gb644 (Nat.le_of_eq hg.symm)) hb); have n1_ := Aside0.mk (below_step (by repeat (first | (with_reducible first | exact HB.out | apply below_alloc | apply pw_below_drewN | apply below_drew1) | exact HB.out)) hb); have n2_ := Aside0.mk (hbox); have n3_ := Aside0.mk ((by rw [hg]; exact (below_size (by repeat (first | (with_reducible first | exact HB.out | apply below_alloc | apply pw_below_drewN | apply below_drew1) | exact HB.out))) : w.heap.size ≤ gb644)); have n4_ := Aside0.mk ((by rw [hg]; exact (below_size (by repeat (first | (with_reducible first | exact HB.out | apply below_alloc | apply pw_below_drewN | apply below_drew1) | exact HB.out))) : w.heap.size ≤ gb644)); clear HO_5; clear HB; have HO_5 := n0_; have HB := n1_; have BK644 := n2_; have GW644 := n3_; have GE644 := n4_; clear n0_ n1_ n2_ n3_ n4_; clear hb hbox hg; have hcz96_0 : w95.cell? ⟨gb644, 0, none⟩ = some (.int .i64 0) := (blk_cell BK644.out 0).trans rfl; have hcz96_1 : w95.cell? ⟨gb644, 1, none⟩ = some (.int .i64 0) := (blk_cell BK644.out 1).trans rfl; have hfz96_0 := blk_frozen BK644.out 0; have hfz96_1 := blk_frozen BK644.out 1) | (go_at_call 15; (with_reducible refine (dropperref07_Error.calls kj84 _ _ l0 _ _ l1 t645 t646 t647 _ ?side1 ?side2 ?side3 ?side4 A92.out).mono ?_); (case side1 => exact Kd.C_below HR0.out (by repeat (first | (with_reducible first | exact HB.out | apply below_alloc | apply pw_below_drewN | apply below_drew1 | refine below_set ?_ GE644.out) | exact HB.out))); (case side2 => exact HC0.out); (case side3 => exact Kd.C_below HR1.out (by repeat (first | (with_reducible first | exact HB.out | apply below_alloc | apply pw_below_drewN | apply below_drew1 | refine below_set ?_ GE644.out) | exact HB.out))); (case side4 => exact HC1.out); rintro e w97 ⟨rfl, hb⟩; have n0_ := Aside0.mk (Kd.R_below (by (with_reducible repeat (first | apply Kd.R_alloc | apply Kd.R_drewN | apply Kd.R_drew)); exact (Kd.R_mono (Kd.R_far (p := ⟨gb644, 1, none⟩) (Kd.R_far (p := ⟨gb644, 0, none⟩) (Kd.R_mono HO_5.out (fun k_ hk => (⟨hk, hk.2⟩ : _ ∧ k_ ≠ gb644))) (fun _ hk => hk.2) (.int .i64 t641)) (fun _ hk => hk.2) (.int .i64 t642)) (fun _ h_ => h_.1))) hb); have n1_ := Aside0.mk (blk_below (g := gb644) (o := .cells #[.int .i64 t641, .int .i64 t642] 35 (0, 0)) (by (with_reducible repeat (first | refine blk_drewN ?_ _ | refine blk_drew ?_ | refine blk_alloc ?_ _)); refine blk_put (cs := #[.int .i64 t641, .int .i64 0]) ?_ 1 _ rfl; (with_reducible repeat (first | refine blk_drewN ?_ _ | refine blk_drew ?_ | refine blk_alloc ?_ _)); refine blk_put (cs := #[.int .i64 0, .int .i64 0]) ?_ 0 _ rfl; (with_reducible repeat (first | refine blk_drewN ?_ _ | refine blk_drew ?_ | refine blk_alloc ?_ _)); exact BK644.out) hb); have n2_ := Aside0.mk (below_step (by repeat (first | (with_reducible first | exact HB.out | apply below_alloc | apply pw_below_drewN | apply below_drew1 | refine below_set ?_ GE644.out) | exact HB.out)) hb); clear HO_5; clear BK644; clear HB; have HO_5 := n0_; have BK644 := n1_; have HB := n2_; clear n0_ n1_ n2_; (try clear hb); (try clear hb2); (try clear hk); (try clear hi)) | ((with_reducible refine gate_dst (N := 24) rfl ?_); (try (refine gate_guard (by rfl) ?_; dsimp only)); refine box_event ?hg (N := 24) ?hd (cs := #[.int .i64 0, .int .i64 0]) (t := 35) ?hr ?_; (case hd => rfl); (case hg => rfl); (case hr => first | (go_simp; done) | (go_simp; rfl)); intro gb648 hg w98 hbox hb; have n0_ := Aside0.mk (Kd.R_below (Kd.R_elderB (by (with_reducible repeat (first | apply Kd.R_alloc | apply Kd.R_drewN | apply Kd.R_drew)); exact HO_5.out) gb648 (Nat.le_of_eq hg.symm)) hb); have n1_ := Aside0.mk (bkB BK644 hb); have n2_ := Aside0.mk (below_step (by repeat (first | (with_reducible first | exact HB.out | apply below_alloc | apply pw_below_drewN | apply below_drew1 | refine below_set ?_ GE644.out) | exact HB.out)) hb); have n3_ := Aside0.mk (hbox); have n4_ := Aside0.mk ((by rw [hg]; exact (below_size (by repeat (first | (with_reducible first | exact HB.out | apply below_alloc | apply pw_below_drewN | apply below_drew1 | refine below_set ?_ GE644.out) | exact HB.out))) : w.heap.size ≤ gb648)); have n5_ := Aside0.mk ((by rw [hg]; exact (below_size (by repeat (first | (with_reducible first | exact HB.out | apply below_alloc | apply pw_below_drewN | apply below_drew1 | refine below_set ?_ GE644.out) | exact HB.out))) : w.heap.size ≤ gb648)); have n6_ := Aside0.mk ((bkL BK644 hg : gb644 ≠ gb648)); have n7_ := Aside0.mk ((bkG BK644 hg : gb648 ≠ gb644)); clear HO_5; clear BK644; clear HB; have HO_5 := n0_; have BK644 := n1_; have HB := n2_; have BK648 := n3_; have GW648 := n4_; have GE648 := n5_; have NB644_648 := n6_; have NB648_644 := n7_; clear n0_ n1_ n2_ n3_ n4_ n5_ n6_ n7_; clear hb hbox hg; have hnb99 := NB648_644.out; have hnc99 := NB644_648.out; have hcz100_0 : w98.cell? ⟨gb648, 0, none⟩ = some (.int .i64 0) := (blk_cell BK648.out 0).trans rfl; have hcz100_1 : w98.cell? ⟨gb648, 1, none⟩ = some (.int .i64 0) := (blk_cell BK648.out 1).trans rfl; have hfz100_0 := blk_frozen BK648.out 0; have hfz100_1 := blk_frozen BK648.out 1)))
                                          (try simp only [Act.put, List.setIfInBounds_toArray, List.set_cons_zero, List.set_cons_succ])
                                          go_cut [278] (fun v278 wc => ∃ (kq : Nat) (x278_92 : Bool), v278 = .bool x278_92 ∧ Aside0 (droppertop_TopWear.j13 kq t643 x278_92 t641 t642 t645 t646 = some r) ∧ Aside0 (kq ≤ kj84) ∧ Aside0 (wc.heap[gb644]? = some (.cells #[.int .i64 t641, .int .i64 t642] 35 (0, 0))) ∧ Aside0 (wc.heap[gb648]? = some (.cells #[.int .i64 t645, .int .i64 t646] 35 (0, 0))) ∧ Aside0 (Below w.heap.size w wc))
                                          case first => as_aux_lemma =>
                                            have H := HC93.out; clear HC93; by_cases c101 : t643 = 0; rotate_left
                                            · rw [if_neg c101] at H; have c101b0 : (t643 == 0) = false := beq_eq_false_iff_ne.mpr c101; have c101b1 : (t643 != 0) = true := bne_iff_ne.mpr c101
                                              (first | rw [c101b0] | (simp only [i64_w, i32_w]; rw [c101b0]) | skip)
                                              have H' := Aside0.mk H; clear H
                                              go_wp2
                                              repeat (go_quiet (fail); try go_wp2)
                                              go_meet
                                              case rel => exact ⟨_, (true), (by first | rfl | (simp; done) | (simp [*]; done)), H', ⟨by have := HJ2.out; have := HJ10.out; have := HJ24.out; have := HK4.out; have := HK5.out; have := HK6.out; have := HJ71.out; have := HJ75.out; have := HJ77.out; have := HJ84.out; first | omega | exact Nat.le_refl _⟩, ⟨by (with_reducible repeat (first | refine blk_drewN ?_ _ | refine blk_drew ?_ | refine blk_alloc ?_ _)); refine blk_far ?_ NB644_648.out _; (with_reducible repeat (first | refine blk_drewN ?_ _ | refine blk_drew ?_ | refine blk_alloc ?_ _)); refine blk_far ?_ NB644_648.out _; (with_reducible repeat (first | refine blk_drewN ?_ _ | refine blk_drew ?_ | refine blk_alloc ?_ _)); exact BK644.out⟩, ⟨by (with_reducible repeat (first | refine blk_drewN ?_ _ | refine blk_drew ?_ | refine blk_alloc ?_ _)); refine blk_put (cs := #[.int .i64 t645, .int .i64 0]) ?_ 1 _ rfl; (with_reducible repeat (first | refine blk_drewN ?_ _ | refine blk_drew ?_ | refine blk_alloc ?_ _)); refine blk_put (cs := #[.int .i64 0, .int .i64 0]) ?_ 0 _ rfl; (with_reducible repeat (first | refine blk_drewN ?_ _ | refine blk_drew ?_ | refine blk_alloc ?_ _)); exact BK648.out⟩, ⟨by repeat (first | (with_reducible first | exact HB.out | apply below_alloc | apply pw_below_drewN | apply below_drew1 | refine below_set ?_ GE644.out | refine below_set ?_ GE648.out) | exact HB.out)⟩⟩
                                            rw [if_pos c101] at H; have c101b0 : (t643 == 0) = true := beq_iff_eq.mpr c101; have c101b1 : (t643 != 0) = false := bne_eq_false_iff_eq.mpr c101; clear c101
                                            (first | rw [c101b0] | (simp only [i64_w, i32_w]; rw [c101b0]) | skip)
                                            have H' := Aside0.mk H; clear H
                                            go_wp2
                                            repeat (go_quiet (fail); try go_wp2)
                                            go_meet
                                            case rel => exact ⟨_, ((t647 != 0)), (by first | rfl | (simp; done) | (simp [*]; done)), H', ⟨by have := HJ2.out; have := HJ10.out; have := HJ24.out; have := HK4.out; have := HK5.out; have := HK6.out; have := HJ71.out; have := HJ75.out; have := HJ77.out; have := HJ84.out; first | omega | exact Nat.le_refl _⟩, ⟨by (with_reducible repeat (first | refine blk_drewN ?_ _ | refine blk_drew ?_ | refine blk_alloc ?_ _)); refine blk_far ?_ NB644_648.out _; (with_reducible repeat (first | refine blk_drewN ?_ _ | refine blk_drew ?_ | refine blk_alloc ?_ _)); refine blk_far ?_ NB644_648.out _; (with_reducible repeat (first | refine blk_drewN ?_ _ | refine blk_drew ?_ | refine blk_alloc ?_ _)); exact BK644.out⟩, ⟨by (with_reducible repeat (first | refine blk_drewN ?_ _ | refine blk_drew ?_ | refine blk_alloc ?_ _)); refine blk_put (cs := #[.int .i64 t645, .int .i64 0]) ?_ 1 _ rfl; (with_reducible repeat (first | refine blk_drewN ?_ _ | refine blk_drew ?_ | refine blk_alloc ?_ _)); refine blk_put (cs := #[.int .i64 0, .int .i64 0]) ?_ 0 _ rfl; (with_reducible repeat (first | refine blk_drewN ?_ _ | refine blk_drew ?_ | refine blk_alloc ?_ _)); exact BK648.out⟩, ⟨by repeat (first | (with_reducible first | exact HB.out | apply below_alloc | apply pw_below_drewN | apply below_drew1 | refine below_set ?_ GE644.out | refine below_set ?_ GE648.out) | exact HB.out)⟩⟩
                                          case rest => as_aux_lemma =>
                                            clear HC93
                                            try clear c1
                                            try clear c2
                                            try clear p2
                                            try clear c3
                                            try clear c4
                                            try clear c5
                                            try clear c6
                                            try clear p6
                                            try clear q6
                                            try clear hx6
                                            try clear qi6
                                            try clear c7
                                            try clear c8
                                            try clear c9
                                            try clear c10
                                            try clear c14
                                            try clear c14b0
                                            try clear c14b1
                                            try clear c15
                                            try clear c15b0
                                            try clear c15b1
                                            try clear c17
                                            try clear c18
                                            try clear c18b0
                                            try clear c18b1
                                            try clear c18b2
                                            try clear c19
                                            try clear c19b0
                                            try clear c19b1
                                            try clear c23
                                            try clear c28
                                            try clear c28b0
                                            try clear c28b1
                                            try clear c29
                                            try clear c30
                                            try clear c30b0
                                            try clear c32
                                            try clear c32b0
                                            try clear c32b1
                                            try clear c33
                                            try clear c33b0
                                            try clear c34
                                            try clear c34b0
                                            try clear c35
                                            try clear c35b0
                                            try clear c39
                                            try clear c39b0
                                            try clear c42
                                            try clear c42b0
                                            try clear c44
                                            try clear c44b0
                                            try clear c46
                                            try clear c46b0
                                            try clear c47
                                            try clear c47b0
                                            try clear c48
                                            try clear c48b0
                                            try clear c49
                                            try clear c49b0
                                            try clear c50
                                            try clear c51
                                            try clear c51b0
                                            try clear c52
                                            try clear c52b0
                                            try clear c54
                                            try clear c54b0
                                            try clear c54b1
                                            try clear c55
                                            try clear c55b0
                                            try clear c56
                                            try clear c56b0
                                            try clear c57
                                            try clear c57b0
                                            try clear c59
                                            try clear c59b0
                                            try clear c60
                                            try clear c60b0
                                            try clear c61
                                            try clear c61b0
                                            try clear p61
                                            try clear q61
                                            try clear hx61
                                            try clear c62
                                            try clear c62b0
                                            try clear p62
                                            try clear q62
                                            try clear hx62
                                            try clear c63
                                            try clear c63b0
                                            try clear c63b1
                                            try clear p63
                                            try clear q63
                                            try clear hx63
                                            try clear c64
                                            try clear c64b0
                                            try clear c64b1
                                            try clear p64
                                            try clear c69
                                            try clear c69b0
                                            try clear c70
                                            try clear c70b0
                                            try clear c74
                                            try clear c74b0
                                            try clear c74b1
                                            try clear c75
                                            try clear c77
                                            try clear c77b0
                                            try clear c77b1
                                            try clear c79
                                            try clear c80
                                            try clear c80b0
                                            try clear c81
                                            try clear c81b0
                                            try clear c82
                                            try clear c82b0
                                            try clear c83
                                            try clear c83b0
                                            try clear c87
                                            try clear c87b0
                                            try clear c87b1
                                            try clear c88
                                            try clear c99
                                            try clear c101
                                            try clear c101b0
                                            try clear c101b1
                                            try clear hcz100_0
                                            try clear hcz100_1
                                            try clear hcz38_0
                                            try clear hcz38_1
                                            try clear hcz67_0
                                            try clear hcz67_1
                                            try clear hcz96_0
                                            try clear hcz96_1
                                            try clear hfz100_0
                                            try clear hfz100_1
                                            try clear hfz38_0
                                            try clear hfz38_1
                                            try clear hfz67_0
                                            try clear hfz67_1
                                            try clear hfz96_0
                                            try clear hfz96_1
                                            try clear hx612_0
                                            try clear hx619_0
                                            try clear hx619_1
                                            try clear hx620_0
                                            try clear hx621_0
                                            try clear hx622_0
                                            try clear hx623_0
                                            try clear hx628_0
                                            try clear hx629_0
                                            try clear hx629_1
                                            try clear hx630_0
                                            try clear hx630_1
                                            try clear hx631_0
                                            try clear hx632_0
                                            try clear hx633_0
                                            try clear hx636_0
                                            try clear hx636_1
                                            try clear hx637_0
                                            try clear p2
                                            try clear p6
                                            try clear p61
                                            try clear p612
                                            try clear p619
                                            try clear p62
                                            try clear p620
                                            try clear p621
                                            try clear p622
                                            try clear p623
                                            try clear p628
                                            try clear p629
                                            try clear p63
                                            try clear p630
                                            try clear p631
                                            try clear p632
                                            try clear p633
                                            try clear p636
                                            try clear p637
                                            try clear p64
                                            try clear q6
                                            try clear q61
                                            try clear q612
                                            try clear q619
                                            try clear q62
                                            try clear q620
                                            try clear q621
                                            try clear q622
                                            try clear q623
                                            try clear q628
                                            try clear q629
                                            try clear q63
                                            try clear q630
                                            try clear q631
                                            try clear q632
                                            try clear q633
                                            try clear q636
                                            try clear q637
                                            obtain ⟨kq, x278_92, rfl, HA, HJ92, BK644, BK648, HB⟩ := hcut
                                            cases kq with
                                            | zero => exact absurd HA.out (by simp [droppertop_TopWear.j13])
                                            | succ kj92 =>
                                              have H := HA.out; clear HA; simp only [droppertop_TopWear.j13] at H; by_cases c102 : x278_92 = true
                                              · subst c102; rw [if_pos rfl] at H; by_cases c103 : t643 = 0
                                                · rw [if_pos c103] at H; have c103b0 : (t643 == 0) = true := beq_iff_eq.mpr c103; have c103b1 : (t643 != 0) = false := bne_eq_false_iff_eq.mpr c103; clear c103; replace H := Option.bind_eq_some_iff.mp H; obtain ⟨t649, A1040, H⟩ := H; (try dsimp only at H); have A104 := Aside0.mk A1040; clear A1040 hT; obtain rfl := Option.some.inj H
                                                  go_wp2_with (first | (go_at_call 5; (with_reducible refine (dropperlaw07_First.calls kj92  t649 _ A104.out).mono ?_); rintro e w105 ⟨rfl, hb⟩; have n0_ := Aside0.mk (bkB BK644 hb); have n1_ := Aside0.mk (bkB BK648 hb); have n2_ := Aside0.mk (below_step (by repeat (first | (with_reducible first | exact HB.out | apply below_alloc | apply pw_below_drewN | apply below_drew1 | refine below_set ?_ GE644.out | refine below_set ?_ GE648.out) | exact HB.out)) hb); clear BK644; clear BK648; clear HB; have BK644 := n0_; have BK648 := n1_; have HB := n2_; clear n0_ n1_ n2_; (try clear hb); (try clear hb2); (try clear hk); (try clear hi)))
                                                  repeat (go_quiet (first | (go_at_call 5; (with_reducible refine (dropperlaw07_First.calls kj92  t649 _ A104.out).mono ?_); rintro e w105 ⟨rfl, hb⟩; have n0_ := Aside0.mk (bkB BK644 hb); have n1_ := Aside0.mk (bkB BK648 hb); have n2_ := Aside0.mk (below_step (by repeat (first | (with_reducible first | exact HB.out | apply below_alloc | apply pw_below_drewN | apply below_drew1 | refine below_set ?_ GE644.out | refine below_set ?_ GE648.out) | exact HB.out)) hb); clear BK644; clear BK648; clear HB; have BK644 := n0_; have BK648 := n1_; have HB := n2_; clear n0_ n1_ n2_; (try clear hb); (try clear hb2); (try clear hk); (try clear hi))); try go_wp2_with (first | (go_at_call 5; (with_reducible refine (dropperlaw07_First.calls kj92  t649 _ A104.out).mono ?_); rintro e w105 ⟨rfl, hb⟩; have n0_ := Aside0.mk (bkB BK644 hb); have n1_ := Aside0.mk (bkB BK648 hb); have n2_ := Aside0.mk (below_step (by repeat (first | (with_reducible first | exact HB.out | apply below_alloc | apply pw_below_drewN | apply below_drew1 | refine below_set ?_ GE644.out | refine below_set ?_ GE648.out) | exact HB.out)) hb); clear BK644; clear BK648; clear HB; have BK644 := n0_; have BK648 := n1_; have HB := n2_; clear n0_ n1_ n2_; (try clear hb); (try clear hb2); (try clear hk); (try clear hi))))
                                                  go_ret
                                                  exact ⟨by first | rfl | (simp [errW_none, errW_some] <;> rfl) | (simp [*, errW_none, errW_some] <;> rfl), by repeat (first | (with_reducible first | exact HB.out | apply below_alloc | apply pw_below_drewN | apply below_drew1 | refine below_set ?_ GE644.out | refine below_set ?_ GE648.out) | exact HB.out)⟩
                                                rw [if_neg c103] at H; have c103b0 : (t643 == 0) = false := beq_eq_false_iff_ne.mpr c103; have c103b1 : (t643 != 0) = true := bne_iff_ne.mpr c103; by_cases c106 : t643 = 4; rotate_left
                                                · rw [if_neg c106] at H; have c106b0 : (t643 == 4) = false := beq_eq_false_iff_ne.mpr c106; have c106b1 : (t643 != 4) = true := bne_iff_ne.mpr c106
                                                  exact absurd (hT.symm.trans (Option.some.inj H).symm) (by decide)
                                                rw [if_pos c106] at H; have c106b0 : (t643 == 4) = true := beq_iff_eq.mpr c106; have c106b1 : (t643 != 4) = false := bne_eq_false_iff_eq.mpr c106; clear c106; replace H := Option.bind_eq_some_iff.mp H; obtain ⟨t650, A1070, H⟩ := H; (try dsimp only at H); have A107 := Aside0.mk A1070; clear A1070 hT; obtain rfl := Option.some.inj H
                                                go_wp2_with (first | (go_at_call 5; (with_reducible refine (dropperlaw07_First.calls kj92  t650 _ A107.out).mono ?_); rintro e w108 ⟨rfl, hb⟩; have n0_ := Aside0.mk (bkB BK644 hb); have n1_ := Aside0.mk (bkB BK648 hb); have n2_ := Aside0.mk (below_step (by repeat (first | (with_reducible first | exact HB.out | apply below_alloc | apply pw_below_drewN | apply below_drew1 | refine below_set ?_ GE644.out | refine below_set ?_ GE648.out) | exact HB.out)) hb); clear BK644; clear BK648; clear HB; have BK644 := n0_; have BK648 := n1_; have HB := n2_; clear n0_ n1_ n2_; (try clear hb); (try clear hb2); (try clear hk); (try clear hi)))
                                                repeat (go_quiet (first | (go_at_call 5; (with_reducible refine (dropperlaw07_First.calls kj92  t650 _ A107.out).mono ?_); rintro e w108 ⟨rfl, hb⟩; have n0_ := Aside0.mk (bkB BK644 hb); have n1_ := Aside0.mk (bkB BK648 hb); have n2_ := Aside0.mk (below_step (by repeat (first | (with_reducible first | exact HB.out | apply below_alloc | apply pw_below_drewN | apply below_drew1 | refine below_set ?_ GE644.out | refine below_set ?_ GE648.out) | exact HB.out)) hb); clear BK644; clear BK648; clear HB; have BK644 := n0_; have BK648 := n1_; have HB := n2_; clear n0_ n1_ n2_; (try clear hb); (try clear hb2); (try clear hk); (try clear hi))); try go_wp2_with (first | (go_at_call 5; (with_reducible refine (dropperlaw07_First.calls kj92  t650 _ A107.out).mono ?_); rintro e w108 ⟨rfl, hb⟩; have n0_ := Aside0.mk (bkB BK644 hb); have n1_ := Aside0.mk (bkB BK648 hb); have n2_ := Aside0.mk (below_step (by repeat (first | (with_reducible first | exact HB.out | apply below_alloc | apply pw_below_drewN | apply below_drew1 | refine below_set ?_ GE644.out | refine below_set ?_ GE648.out) | exact HB.out)) hb); clear BK644; clear BK648; clear HB; have BK644 := n0_; have BK648 := n1_; have HB := n2_; clear n0_ n1_ n2_; (try clear hb); (try clear hb2); (try clear hk); (try clear hi))))
                                                go_ret
                                                exact ⟨by first | rfl | (simp [errW_none, errW_some] <;> rfl) | (simp [*, errW_none, errW_some] <;> rfl), by repeat (first | (with_reducible first | exact HB.out | apply below_alloc | apply pw_below_drewN | apply below_drew1 | refine below_set ?_ GE644.out | refine below_set ?_ GE648.out) | exact HB.out)⟩
                                              replace c102 := Bool.eq_false_iff.mpr c102; subst c102; rw [if_neg (show ¬ (false = true) by decide)] at H; by_cases c109 : t642 ≥ 1; rotate_left
                                              · rw [if_neg c109] at H; have c109b0 : decide (1 ≤ t642) = false := decide_eq_false c109; clear c109
                                                exact absurd (hT.symm.trans (Option.some.inj H).symm) (by decide)
                                              rw [if_pos c109] at H; have c109b0 : decide (1 ≤ t642) = true := decide_eq_true c109; clear c109; replace H := Option.bind_eq_some_iff.mp H; obtain ⟨t651, A1100, H⟩ := H; (try dsimp only at H); have A110 := Aside0.mk A1100; clear A1100; by_cases c111 : t651 = true
                                              · subst c111; rw [if_pos rfl] at H
                                                exact absurd (hT.symm.trans (Option.some.inj H).symm) (by decide)
                                              replace c111 := Bool.eq_false_iff.mpr c111; subst c111; rw [if_neg (show ¬ (false = true) by decide)] at H; replace H := Option.bind_eq_some_iff.mp H; obtain ⟨t652, A1120, H⟩ := H; (try dsimp only at H); have A112 := Aside0.mk A1120; clear A1120 hT; obtain rfl := Option.some.inj H; have hnb113 := NB644_648.out; have hnc113 := NB648_644.out; have hcz114_0 : wc.cell? ⟨gb644, 0, none⟩ = some (.int .i64 t641) := (blk_cell BK644.out 0).trans rfl; have hcz114_1 : wc.cell? ⟨gb644, 1, none⟩ = some (.int .i64 t642) := (blk_cell BK644.out 1).trans rfl; have hfz114_0 := blk_frozen BK644.out 0; have hfz114_1 := blk_frozen BK644.out 1; have hcz115_0 : wc.cell? ⟨gb648, 0, none⟩ = some (.int .i64 t645) := (blk_cell BK648.out 0).trans rfl; have hcz115_1 : wc.cell? ⟨gb648, 1, none⟩ = some (.int .i64 t646) := (blk_cell BK648.out 1).trans rfl; have hfz115_0 := blk_frozen BK648.out 0; have hfz115_1 := blk_frozen BK648.out 1
                                              go_wp2_with (first | (go_at_call 16; (with_reducible refine (droppertop_less.calls t645 t646 t641 t642 false _ A110.out).mono ?_); rintro e w116 ⟨rfl, hb⟩; have n0_ := Aside0.mk (bkB BK644 hb); have n1_ := Aside0.mk (bkB BK648 hb); have n2_ := Aside0.mk (below_step (by repeat (first | (with_reducible first | exact HB.out | apply below_alloc | apply pw_below_drewN | apply below_drew1 | refine below_set ?_ GE644.out | refine below_set ?_ GE648.out) | exact HB.out)) hb); clear BK644; clear BK648; clear HB; have BK644 := n0_; have BK648 := n1_; have HB := n2_; clear n0_ n1_ n2_; (try clear hb); (try clear hb2); (try clear hk); (try clear hi)) | (go_at_call 5; (with_reducible refine (dropperlaw07_First.calls kj92  t652 _ A112.out).mono ?_); rintro e w117 ⟨rfl, hb⟩; have n0_ := Aside0.mk (bkB BK644 hb); have n1_ := Aside0.mk (bkB BK648 hb); have n2_ := Aside0.mk (below_step (by repeat (first | (with_reducible first | exact HB.out | apply below_alloc | apply pw_below_drewN | apply below_drew1 | refine below_set ?_ GE644.out | refine below_set ?_ GE648.out) | exact HB.out)) hb); clear BK644; clear BK648; clear HB; have BK644 := n0_; have BK648 := n1_; have HB := n2_; clear n0_ n1_ n2_; (try clear hb); (try clear hb2); (try clear hk); (try clear hi)))
                                              repeat (go_quiet (first | (go_at_call 16; (with_reducible refine (droppertop_less.calls t645 t646 t641 t642 false _ A110.out).mono ?_); rintro e w116 ⟨rfl, hb⟩; have n0_ := Aside0.mk (bkB BK644 hb); have n1_ := Aside0.mk (bkB BK648 hb); have n2_ := Aside0.mk (below_step (by repeat (first | (with_reducible first | exact HB.out | apply below_alloc | apply pw_below_drewN | apply below_drew1 | refine below_set ?_ GE644.out | refine below_set ?_ GE648.out) | exact HB.out)) hb); clear BK644; clear BK648; clear HB; have BK644 := n0_; have BK648 := n1_; have HB := n2_; clear n0_ n1_ n2_; (try clear hb); (try clear hb2); (try clear hk); (try clear hi)) | (go_at_call 5; (with_reducible refine (dropperlaw07_First.calls kj92  t652 _ A112.out).mono ?_); rintro e w117 ⟨rfl, hb⟩; have n0_ := Aside0.mk (bkB BK644 hb); have n1_ := Aside0.mk (bkB BK648 hb); have n2_ := Aside0.mk (below_step (by repeat (first | (with_reducible first | exact HB.out | apply below_alloc | apply pw_below_drewN | apply below_drew1 | refine below_set ?_ GE644.out | refine below_set ?_ GE648.out) | exact HB.out)) hb); clear BK644; clear BK648; clear HB; have BK644 := n0_; have BK648 := n1_; have HB := n2_; clear n0_ n1_ n2_; (try clear hb); (try clear hb2); (try clear hk); (try clear hi))); try go_wp2_with (first | (go_at_call 16; (with_reducible refine (droppertop_less.calls t645 t646 t641 t642 false _ A110.out).mono ?_); rintro e w116 ⟨rfl, hb⟩; have n0_ := Aside0.mk (bkB BK644 hb); have n1_ := Aside0.mk (bkB BK648 hb); have n2_ := Aside0.mk (below_step (by repeat (first | (with_reducible first | exact HB.out | apply below_alloc | apply pw_below_drewN | apply below_drew1 | refine below_set ?_ GE644.out | refine below_set ?_ GE648.out) | exact HB.out)) hb); clear BK644; clear BK648; clear HB; have BK644 := n0_; have BK648 := n1_; have HB := n2_; clear n0_ n1_ n2_; (try clear hb); (try clear hb2); (try clear hk); (try clear hi)) | (go_at_call 5; (with_reducible refine (dropperlaw07_First.calls kj92  t652 _ A112.out).mono ?_); rintro e w117 ⟨rfl, hb⟩; have n0_ := Aside0.mk (bkB BK644 hb); have n1_ := Aside0.mk (bkB BK648 hb); have n2_ := Aside0.mk (below_step (by repeat (first | (with_reducible first | exact HB.out | apply below_alloc | apply pw_below_drewN | apply below_drew1 | refine below_set ?_ GE644.out | refine below_set ?_ GE648.out) | exact HB.out)) hb); clear BK644; clear BK648; clear HB; have BK644 := n0_; have BK648 := n1_; have HB := n2_; clear n0_ n1_ n2_; (try clear hb); (try clear hb2); (try clear hk); (try clear hi))))
                                              go_ret
                                              exact ⟨by first | rfl | (simp [errW_none, errW_some] <;> rfl) | (simp [*, errW_none, errW_some] <;> rfl), by repeat (first | (with_reducible first | exact HB.out | apply below_alloc | apply pw_below_drewN | apply below_drew1 | refine below_set ?_ GE644.out | refine below_set ?_ GE648.out) | exact HB.out)⟩
end Go.Proofs.Ytklapbgajghhcaa.G
end
