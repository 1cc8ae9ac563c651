/- Functions of the seat and plain laws about them: GF78, GF77, GF90, GF91, GF92. -/
import Derived.Test.YthbpibdfookbmaaGBase
import Derived.Test.YthbpibdfookbmaaZT9
import Derived.Lib.SliceRun
import Derived.Test.YthbpibdfookbmaaZT0
section
namespace Go.Proofs.Ythbpibdfookbmaa.G
open Go.RowKit Go.Proofs.YthbpibdfookbmaaW.PrintWords Go.Proofs.YthbpibdfookbmaaW.PrintLast Go.Proofs.YthbpibdfookbmaaW.PrintMore
attribute [local go_sem] max2_int min2_int max_two min_two max_three min_three max_four min_four
set_option linter.unusedVariables false
set_option linter.unusedSimpArgs false
def cmp_Compare_int.f (a0 : Int) (a1 : Int) : Option (Int) := (cmp_isNaN_int.f a0).bind fun t101 => ((cmp_isNaN_int.f a1).bind fun t102 => (if t101 = true then (if t102 = true then (some 0) else (some (-1))) else (if t102 = true then (some 1) else (if a0 < a1 then (some (-1)) else (if a0 > a1 then (some 1) else (some 0))))))
set_option maxHeartbeats 8000000 in
set_option maxRecDepth 100000 in
theorem cmp_Compare_int.calls (a0 : Int) (a1 : Int) (r : Int) (w : World) (h : cmp_Compare_int.f a0 a1 = some r) :
  Calls Try.prog 78 #[.int .i64 a0, .int .i64 a1] w fun e w' => e = .returned (.int .i64 r) ∧ Drawn0 w w' := by
 have H : ((cmp_isNaN_int.f a0).bind fun t101 => ((cmp_isNaN_int.f a1).bind fun t102 => (if t101 = true then (if t102 = true then (some 0) else (some (-1))) else (if t102 = true then (some 1) else (if a0 < a1 then (some (-1)) else (if a0 > a1 then (some 1) else (some 0))))))) = some r := h
 clear h
 replace H := Option.bind_eq_some_iff.mp H
 obtain ⟨t101, A30, H⟩ := H
 replace H : ((cmp_isNaN_int.f a1).bind fun t102 => (if t101 = true then (if t102 = true then (some 0) else (some (-1))) else (if t102 = true then (some 1) else (if a0 < a1 then (some (-1)) else (if a0 > a1 then (some 1) else (some 0)))))) = some r := H
 have A3 := A_ A30
 clear A30
 replace H := Option.bind_eq_some_iff.mp H
 obtain ⟨t102, A40, H⟩ := H
 replace H : (if t101 = true then (if t102 = true then (some 0) else (some (-1))) else (if t102 = true then (some 1) else (if a0 < a1 then (some (-1)) else (if a0 > a1 then (some 1) else (some 0))))) = some r := H
 have A4 := A_ A40
 clear A40
 by_cases c5 : t101 = true
 ·subst c5
  have H1 : (if t102 = true then (some 0) else (some (-1))) = some r := by rw [if_pos rfl] at H; exact H
  clear H
  have H := H1
  clear H1
  by_cases c6 : t102 = true
  ·subst c6
   have H1 : (some 0) = some r := by rw [if_pos rfl] at H; exact H
   clear H
   have H := H1
   clear H1
   obtain rfl := Option.some.inj H
   go_enter Try.func78, Try.ntmps78
   go_wp2_with (first | ((with_reducible refine gate_callee (f := 89) rfl ?_); refine goesW_ (some 8) Try.func89 #[.int .i64 a0] ?_; (with_reducible refine (cmp_isNaN_int.calls a0 true _ A3.out).mono ?_); rintro e w' ⟨rfl, ⟨nd, rfl⟩⟩; refine ⟨_, rfl, ?_⟩) | ((with_reducible refine gate_callee (f := 89) rfl ?_); refine goesW_ (some 10) Try.func89 #[.int .i64 a1] ?_; (with_reducible refine (cmp_isNaN_int.calls a1 true _ A4.out).mono ?_); rintro e w' ⟨rfl, ⟨nd, rfl⟩⟩; refine ⟨_, rfl, ?_⟩))
   go_ret
   exact ⟨by first | rfl | (simp; done) | (simp [*]; done), by repeat (first | exact Drawn0.refl _ | apply Drawn0.step)⟩
  replace c6 := Bool.eq_false_iff.mpr c6
  subst c6
  have H1 : (some (-1)) = some r := by rw [if_neg (show ¬ (false = true) by decide)] at H; exact H
  clear H
  have H := H1
  clear H1
  obtain rfl := Option.some.inj H
  go_enter Try.func78, Try.ntmps78
  go_wp2_with (first | ((with_reducible refine gate_callee (f := 89) rfl ?_); refine goesW_ (some 8) Try.func89 #[.int .i64 a0] ?_; (with_reducible refine (cmp_isNaN_int.calls a0 true _ A3.out).mono ?_); rintro e w' ⟨rfl, ⟨nd, rfl⟩⟩; refine ⟨_, rfl, ?_⟩) | ((with_reducible refine gate_callee (f := 89) rfl ?_); refine goesW_ (some 10) Try.func89 #[.int .i64 a1] ?_; (with_reducible refine (cmp_isNaN_int.calls a1 false _ A4.out).mono ?_); rintro e w' ⟨rfl, ⟨nd, rfl⟩⟩; refine ⟨_, rfl, ?_⟩))
  go_ret
  exact ⟨by first | rfl | (simp; done) | (simp [*]; done), by repeat (first | exact Drawn0.refl _ | apply Drawn0.step)⟩
 replace c5 := Bool.eq_false_iff.mpr c5
 subst c5
 have H1 : (if t102 = true then (some 1) else (if a0 < a1 then (some (-1)) else (if a0 > a1 then (some 1) else (some 0)))) = some r := by rw [if_neg (show ¬ (false = true) by decide)] at H; exact H
 clear H
 have H := H1
 clear H1
 by_cases c7 : t102 = true
 ·subst c7
  have H1 : (some 1) = some r := by rw [if_pos rfl] at H; exact H
  clear H
  have H := H1
  clear H1
  obtain rfl := Option.some.inj H
  go_enter Try.func78, Try.ntmps78
  go_wp2_with (first | ((with_reducible refine gate_callee (f := 89) rfl ?_); refine goesW_ (some 8) Try.func89 #[.int .i64 a0] ?_; (with_reducible refine (cmp_isNaN_int.calls a0 false _ A3.out).mono ?_); rintro e w' ⟨rfl, ⟨nd, rfl⟩⟩; refine ⟨_, rfl, ?_⟩) | ((with_reducible refine gate_callee (f := 89) rfl ?_); refine goesW_ (some 10) Try.func89 #[.int .i64 a1] ?_; (with_reducible refine (cmp_isNaN_int.calls a1 true _ A4.out).mono ?_); rintro e w' ⟨rfl, ⟨nd, rfl⟩⟩; refine ⟨_, rfl, ?_⟩))
  go_ret
  exact ⟨by first | rfl | (simp; done) | (simp [*]; done), by repeat (first | exact Drawn0.refl _ | apply Drawn0.step)⟩
 replace c7 := Bool.eq_false_iff.mpr c7
 subst c7
 have H1 : (if a0 < a1 then (some (-1)) else (if a0 > a1 then (some 1) else (some 0))) = some r := by rw [if_neg (show ¬ (false = true) by decide)] at H; exact H
 clear H
 have H := H1
 clear H1
 by_cases c8 : a0 < a1
 ·rw [if_pos c8] at H
  have c8b0 : decide (a0 < a1) = true := decide_eq_true c8
  clear c8
  obtain rfl := Option.some.inj H
  go_enter Try.func78, Try.ntmps78
  go_wp2_with (first | ((with_reducible refine gate_callee (f := 89) rfl ?_); refine goesW_ (some 8) Try.func89 #[.int .i64 a0] ?_; (with_reducible refine (cmp_isNaN_int.calls a0 false _ A3.out).mono ?_); rintro e w' ⟨rfl, ⟨nd, rfl⟩⟩; refine ⟨_, rfl, ?_⟩) | ((with_reducible refine gate_callee (f := 89) rfl ?_); refine goesW_ (some 10) Try.func89 #[.int .i64 a1] ?_; (with_reducible refine (cmp_isNaN_int.calls a1 false _ A4.out).mono ?_); rintro e w' ⟨rfl, ⟨nd, rfl⟩⟩; refine ⟨_, rfl, ?_⟩))
  go_ret
  exact ⟨by first | rfl | (simp; done) | (simp [*]; done), by repeat (first | exact Drawn0.refl _ | apply Drawn0.step)⟩
 rw [if_neg c8] at H
 have c8b0 : decide (a0 < a1) = false := decide_eq_false c8
 clear c8
 by_cases c9 : a0 > a1
 ·rw [if_pos c9] at H
  have c9b0 : decide (a1 < a0) = true := decide_eq_true c9
  clear c9
  obtain rfl := Option.some.inj H
  go_enter Try.func78, Try.ntmps78
  go_wp2_with (first | ((with_reducible refine gate_callee (f := 89) rfl ?_); refine goesW_ (some 8) Try.func89 #[.int .i64 a0] ?_; (with_reducible refine (cmp_isNaN_int.calls a0 false _ A3.out).mono ?_); rintro e w' ⟨rfl, ⟨nd, rfl⟩⟩; refine ⟨_, rfl, ?_⟩) | ((with_reducible refine gate_callee (f := 89) rfl ?_); refine goesW_ (some 10) Try.func89 #[.int .i64 a1] ?_; (with_reducible refine (cmp_isNaN_int.calls a1 false _ A4.out).mono ?_); rintro e w' ⟨rfl, ⟨nd, rfl⟩⟩; refine ⟨_, rfl, ?_⟩))
  go_ret
  exact ⟨by first | rfl | (simp; done) | (simp [*]; done), by repeat (first | exact Drawn0.refl _ | apply Drawn0.step)⟩
 rw [if_neg c9] at H
 have c9b0 : decide (a1 < a0) = false := decide_eq_false c9
 clear c9
 obtain rfl := Option.some.inj H
 go_enter Try.func78, Try.ntmps78
 go_wp2_with (first | ((with_reducible refine gate_callee (f := 89) rfl ?_); refine goesW_ (some 8) Try.func89 #[.int .i64 a0] ?_; (with_reducible refine (cmp_isNaN_int.calls a0 false _ A3.out).mono ?_); rintro e w' ⟨rfl, ⟨nd, rfl⟩⟩; refine ⟨_, rfl, ?_⟩) | ((with_reducible refine gate_callee (f := 89) rfl ?_); refine goesW_ (some 10) Try.func89 #[.int .i64 a1] ?_; (with_reducible refine (cmp_isNaN_int.calls a1 false _ A4.out).mono ?_); rintro e w' ⟨rfl, ⟨nd, rfl⟩⟩; refine ⟨_, rfl, ?_⟩))
 go_ret
 exact ⟨by first | rfl | (simp; done) | (simp [*]; done), by repeat (first | exact Drawn0.refl _ | apply Drawn0.step)⟩
def ice_Rota_1.f (a0 : Int) (a1 : Int) (l2_0 : List Int) : Option (Int) := if 0 ≤ a0 then (if a0 < (l2_0.length : Int) then (if 0 ≤ a1 then (if a1 < (l2_0.length : Int) then ((cmp_Compare_int.f (rd l2_0 a0) (rd l2_0 a1)).bind fun t103 => (some t103)) else (none)) else (none)) else (none)) else (none)
set_option maxHeartbeats 8000000 in
set_option maxRecDepth 100000 in
theorem ice_Rota_1.calls (a0 : Int) (a1 : Int) (b2 : Nat) (A2_0 : Option Addr) (c2_0 : Nat) (l2_0 : List Int) (r : Int) (w : World) (hbk2 : w.heap[b2]? = some (.cells #[.slice A2_0 l2_0.length c2_0] 22 (0, 0))) (hr2_0 : Kd.C (Kd.int .i64) w A2_0 l2_0.length l2_0) (hc2_0 : l2_0.length ≤ c2_0) (h : ice_Rota_1.f a0 a1 l2_0 = some r) :
  Calls Try.prog 77 #[.int .i64 a0, .int .i64 a1, .pointer (some ⟨b2, 0, none⟩)] w fun e w' => e = .returned (.int .i64 r) ∧ Drawn0 w w' := by
 have HR2_0 := A_ hr2_0
 have HC2_0 := A_ hc2_0
 clear hr2_0 hc2_0
 have BK2 := A_ hbk2
 clear hbk2
 have H : (if 0 ≤ a0 then (if a0 < (l2_0.length : Int) then (if 0 ≤ a1 then (if a1 < (l2_0.length : Int) then ((cmp_Compare_int.f (rd l2_0 a0) (rd l2_0 a1)).bind fun t103 => (some t103)) else (none)) else (none)) else (none)) else (none)) = some r := h
 clear h
 by_cases c4 : 0 ≤ a0
 rotate_left
 ·rw [if_neg c4] at H
  exact absurd H (by simp)
 rw [if_pos c4] at H
 have c4b0 : decide (0 ≤ a0) = true := decide_eq_true c4
 clear c4
 by_cases c5 : a0 < (l2_0.length : Int)
 rotate_left
 ·rw [if_neg c5] at H
  exact absurd H (by simp)
 rw [if_pos c5] at H
 have c5b0 : decide (a0 < (l2_0.length : Int)) = true := decide_eq_true c5
 clear c5
 by_cases c6 : 0 ≤ a1
 rotate_left
 ·rw [if_neg c6] at H
  exact absurd H (by simp)
 rw [if_pos c6] at H
 have c6b0 : decide (0 ≤ a1) = true := decide_eq_true c6
 clear c6
 by_cases c7 : a1 < (l2_0.length : Int)
 rotate_left
 ·rw [if_neg c7] at H
  exact absurd H (by simp)
 rw [if_pos c7] at H
 have c7b0 : decide (a1 < (l2_0.length : Int)) = true := decide_eq_true c7
 clear c7
 replace H := Option.bind_eq_some_iff.mp H
 obtain ⟨t103, A80, H⟩ := H
 replace H : (some t103) = some r := H
 have A8 := A_ A80
 clear A80
 obtain rfl := Option.some.inj H
 have hcz9_0 : w.cell? ⟨b2, 0, none⟩ = some (.slice A2_0 l2_0.length c2_0) := (blk_cell BK2.out 0).trans rfl
 have hfz9_0 := blk_frozen BK2.out 0
 have p101 : 0 ≤ (a0 : Int) := oD
 have q101 : a0 < (l2_0.length : Int) := oD
 obtain ⟨ad101, e101, hx101_0⟩ := Kd.at_int HR2_0.out a0 p101 q101
 cases e101
 replace p101 := eq_true p101
 replace q101 := eq_true q101
 have p102 : 0 ≤ (a1 : Int) := oD
 have q102 : a1 < (l2_0.length : Int) := oD
 obtain ⟨ad102, e102, hx102_0⟩ := Kd.at_int HR2_0.out a1 p102 q102
 obtain rfl : ad101 = ad102 := (by injection e102)
 replace p102 := eq_true p102
 replace q102 := eq_true q102
 go_enter Try.func77, Try.ntmps77
 go_wp2_with (first | (go_at_call 78; (with_reducible refine (cmp_Compare_int.calls (rd l2_0 a0) (rd l2_0 a1) t103 _ A8.out).mono ?_); rintro e w' ⟨rfl, ⟨nd, rfl⟩⟩; (try first | exact ⟨rfl, _, World.drewN_drewN _ _ _⟩ | exact ⟨rfl, _, Eq.trans (World.drewN_drewN _ _ _) (congrArg (World.drewN _) (Nat.add_assoc _ _ _))⟩)))
 repeat (go_quiet (first | (go_at_call 78; (with_reducible refine (cmp_Compare_int.calls (rd l2_0 a0) (rd l2_0 a1) t103 _ A8.out).mono ?_); rintro e w' ⟨rfl, ⟨nd, rfl⟩⟩; (try first | exact ⟨rfl, _, World.drewN_drewN _ _ _⟩ | exact ⟨rfl, _, Eq.trans (World.drewN_drewN _ _ _) (congrArg (World.drewN _) (Nat.add_assoc _ _ _))⟩))); try go_wp2_with (first | (go_at_call 78; (with_reducible refine (cmp_Compare_int.calls (rd l2_0 a0) (rd l2_0 a1) t103 _ A8.out).mono ?_); rintro e w' ⟨rfl, ⟨nd, rfl⟩⟩; (try first | exact ⟨rfl, _, World.drewN_drewN _ _ _⟩ | exact ⟨rfl, _, Eq.trans (World.drewN_drewN _ _ _) (congrArg (World.drewN _) (Nat.add_assoc _ _ _))⟩))))
 go_ret
 exact ⟨by first | rfl | (simp; done) | (simp [*]; done), by repeat (first | exact Drawn0.refl _ | apply Drawn0.step)⟩
theorem clear_own {W : World} {base : Nat} {ok : Nat → Prop} {A : Option Addr} {n c : Nat} {xs : List Int} (h : Kd.R (Kd.int .i64) 3 W base ok (.slice A n c) xs) (hn : n = xs.length) (m : Nat) (hm : m ≤ n) {A1 : Option Addr} (hA1 : A1 = if c = m then A else A.map (·.add (m * 1))) (c1 n1 : Nat) (hn1 : n1 = n - m) :
  ∃ W2, (∀ ty, (Builtin.clear_ #[22] ty #[.slice A1 n1 c1]).run Try.prog W = .ok (.tuple #[]) W2) ∧ Kd.R (Kd.int .i64) 3 W2 base ok (.slice A m c) (xs.take m) ∧ W.grownBy W2 (Value.slice A n c).ownBlock := by
 have hz : ∀ w, (zeroValue 3).run Try.prog w = .ok (.int .i64 0) w := fun w => by kernel_rfl
 by_cases hmn : m = n
 ·subst hmn
  refine ⟨W, fun ty => ?_, Kd.R_take h (by omega), ⟨rfl, rfl, rfl, Nat.le_refl _, fun _ _ _ => rfl⟩⟩
  rw [Nat.sub_self] at hn1; subst hn1
  cases A1 <;> simp [Builtin.clear_, run_underlying Try.underlying22]
 ·have hown := Kd.own_of_R h
  have hok := h.1; obtain ⟨ho1, ho2⟩ := hown
  rcases ho2 with ⟨_, hz0⟩ | ⟨g, cap, cur, hv, hb, hh, h1, h2, h3, h4⟩
  ·omega
  ·injection hv with hA hN hC
   subst hA; subst hC
   have hcm : ¬ (c = m) := by omega
   rw [if_neg hcm] at hA1; simp only [Option.map_some, add_at, Nat.mul_one, Nat.zero_add] at hA1; subst hA1
   obtain ⟨cur', g1, g2, g3⟩ := setCells_row (List.replicate n1 (Value.int .i64 0)) m W cur hh (by simp; omega)
   obtain ⟨s1, s2, s3, s4⟩ := setCells_same g (List.replicate n1 (Value.int .i64 0)) m W
   refine ⟨W.setCells g m (List.replicate n1 (.int .i64 0)), fun ty => ?_, ?_, ?_⟩
   ·exact Lib.run_clear_slice W 22 3 ty (.int .i64 0) Try.underlying22 hz rfl rfl g m n1 c1 (by omega)
     (fun j hj => by rw [cell_of_row W g _ cur 3 (0, 0) hh]; simp; omega)
     (fun j hj => blk_frozen hh _)
   ·refine Kd.R_of_own ⟨by simp [encs], .inr ⟨g, c, cur', ?_, hb, g1, ?_, h2, by rw [g2]; exact h3, ?_⟩⟩ hok
    ·rw [List.length_take, Nat.min_eq_left (by omega)]
    ·rw [List.length_take]; omega
    ·rw [g3]
     rw [List.length_take, Nat.min_eq_left (by omega), List.append_assoc, List.take_append_of_le_length (by rw [List.length_take, Array.length_toList]; omega), List.take_take]
     have : (cur.toList.take (xs.length * 1)).take m = (encs (Value.int .i64) xs).take m := by rw [h4]
     rw [List.take_take] at this
     rw [show min (m * 1) m = min m (xs.length * 1) by omega, this]
     simp [encs, List.map_take]
   ·exact ⟨s1, s2, s3, by rw [s4]; exact Nat.le_refl _, fun k _ hk => setCells_far _ _ k (fun he => hk (by rw [he]; rfl))⟩
def slices_DeleteFunc_int_int.l0 : Nat → List Int → (Int → Option (Bool)) → Int → Int → Option (List Int)
 | 0, _, _, _, _ => none
 | k + 1, x0, x1, x5, x6 => if x6 < (x0.length : Int) then (if 0 ≤ x6 then ((x1 (rd x0 x6)).bind fun t103 => (if t103 = true then (slices_DeleteFunc_int_int.l0 k x0 x1 x5 (wrap64 (x6 + 1))) else (if 0 ≤ x5 then (if x5 < (x0.length : Int) then (slices_DeleteFunc_int_int.l0 k (x0.set (x5 : Int).toNat (rd x0 x6)) x1 (wrap64 (x5 + 1)) (wrap64 (x6 + 1))) else (none)) else (none)))) else (none)) else (if 0 ≤ x5 then (if x5 ≤ (x0.length : Int) then (some (x0.take (x5 : Int).toNat)) else (none)) else (none))
def slices_DeleteFunc_int_int.f (k : Nat) (l0 : List Int) (a1 : (Int → Option (Bool))) : Option (List Int) := (slices_IndexFunc_int_int.f k l0 a1).bind fun t101 => (if t101 = (-1) then (some l0) else (slices_DeleteFunc_int_int.l0 k l0 a1 t101 (wrap64 (t101 + 1))))
theorem slices_DeleteFunc_int_int.mono_l : ∀ k, (∀ y0 y1 y2 y3, LeO (slices_DeleteFunc_int_int.l0 k y0 y1 y2 y3) (slices_DeleteFunc_int_int.l0 (k + 1) y0 y1 y2 y3))
 | 0 => fun _ _ _ _ r h => by simp [slices_DeleteFunc_int_int.l0] at h
 | k + 1 => by
  have ih0 := slices_DeleteFunc_int_int.mono_l k
  ·intro y0 y1 y2 y3
   unfold slices_DeleteFunc_int_int.l0
   repeat' first
   | (with_reducible exact ih0 _ _ _ _)
   | (with_reducible exact slices_IndexFunc_int_int.mono _ _ _)
   | (with_reducible exact LeO.refl _)
   | (with_reducible exact LeO.none _)
   | (with_reducible refine LeO.ite ?_ ?_)
   | (with_reducible refine LeO.bind ?_ (fun _ => ?_))
   | exact ih0 _ _ _ _
   | exact slices_IndexFunc_int_int.mono _ _ _
   | exact LeO.none _
   | refine LeO.ite ?_ ?_
   | refine LeO.bind ?_ (fun _ => ?_)
theorem slices_DeleteFunc_int_int.mono : ∀ a0 a1 k, LeO (slices_DeleteFunc_int_int.f k a0 a1) (slices_DeleteFunc_int_int.f (k + 1) a0 a1) := by
 intro a0 a1 k
 have ih0 := slices_DeleteFunc_int_int.mono_l k
 unfold slices_DeleteFunc_int_int.f
 repeat' first
   | (with_reducible exact ih0 _ _ _ _)
   | (with_reducible exact slices_IndexFunc_int_int.mono _ _ _)
   | (with_reducible exact LeO.refl _)
   | (with_reducible exact LeO.none _)
   | (with_reducible refine LeO.ite ?_ ?_)
   | (with_reducible refine LeO.bind ?_ (fun _ => ?_))
   | exact ih0 _ _ _ _
   | exact slices_IndexFunc_int_int.mono _ _ _
   | exact LeO.none _
   | refine LeO.ite ?_ ?_
   | refine LeO.bind ?_ (fun _ => ?_)
set_option maxHeartbeats 8000000 in
set_option maxRecDepth 100000 in
theorem slices_DeleteFunc_int_int.calls (k : Nat) (P0_ : Nat → Prop) (u9000_ : Value) (l0 : List Int) {g1 : FuncId} {lb1 : Array Value} (hen1 : EntersF Try.prog g1) (a1 : (Int → Option (Bool))) (r : List Int) (w0 w : World) (hB : Below w0.heap.size w0 w) (ho0 : Kd.R (Kd.int .i64) 3 w w0.heap.size P0_ u9000_ l0) (hfn1 : ∀ (z0_ : Int) (q0_ : Bool) (W_ : World), Below w0.heap.size w0 W_ → a1 z0_ = some q0_ → Calls Try.prog g1 (#[.int .i64 z0_] ++ lb1) W_ fun e w' => e = .returned (.bool q0_) ∧ Below W_.heap.size W_ w') (h : slices_DeleteFunc_int_int.f k l0 a1 = some r) :
  Calls Try.prog 90 #[u9000_, .func (.func g1) #[] lb1] w fun e w' => ∃ v0_ : Value, e = .returned (v0_) ∧ Kd.R (Kd.int .i64) 3 w' w0.heap.size (fun k_ => (P0_ k_ ∨ w.heap.size ≤ k_)) v0_ r ∧ Below w0.heap.size w0 w' ∧ Kept w w' (fun k_ => P0_ k_) := by
 have HO0 := A_ (show Kd.R (Kd.int .i64) 3 w w0.heap.size (fun k_ => (P0_ k_ ∨ w.heap.size ≤ k_)) u9000_ l0 from Kd.R_mono ho0 (fun k_ hk => (.inl hk)))
 have HFN1 := A_ hfn1; have HEN1 := A_ hen1; clear hfn1 hen1
 have HK := A_ (Kept.refl w (fun k_ => P0_ k_))
 have HW0 := A_ hB.size; have HB := A_ hB; clear hB
 have H : ((slices_IndexFunc_int_int.f k l0 a1).bind fun t101 => (if t101 = (-1) then (some l0) else (slices_DeleteFunc_int_int.l0 k l0 a1 t101 (wrap64 (t101 + 1))))) = some r := h
 clear h; replace H := Option.bind_eq_some_iff.mp H; obtain ⟨t101, A30, H⟩ := H; (try dsimp only at H); have A3 := A_ A30; clear A30; by_cases c4 : t101 = (-1)
 ·rw [if_pos c4] at H
  have c4b0 : (t101 == (-1)) = true := beq_iff_eq.mpr c4; have c4b1 : (t101 != (-1)) = false := bne_eq_false_iff_eq.mpr c4; clear c4; obtain rfl := Option.some.inj H; obtain ⟨Ao5, co5, eo5⟩ := Kd.R_slice HO0.out; subst eo5
  go_enter Try.func90, Try.ntmps90
  go_wp2_with (first | ((with_reducible refine gate_callee (f := 86) rfl ?_); refine goesW_ (some 10) Try.func86 #[.slice Ao5 l0.length co5, .func (.func g1) #[] lb1] ?_; (with_reducible refine (slices_IndexFunc_int_int.calls k _ _ l0 HEN1.out a1 t101 _ ?side1 ?side2 ?side3 A3.out).mono ?_); (case side1 => exact cU (Kd.R_reads' HO0.out).2.2); (case side2 => exact (Kd.R_reads' HO0.out).2.1); (case side3 => exact fun z0_ q0_ W_ hW_ hq_ => HFN1.out z0_ q0_ W_ (below_step (bW0 HB.out) hW_) hq_); rintro e w6 ⟨rfl, hb⟩; refine ⟨_, rfl, ?_⟩; have n0_ := A_ (Kd.R_below (rU HO0.out) hb); have n1_ := A_ (Kept.below (S := (fun k_ => P0_ k_)) (by repeat (first | (with_reducible first | exact HK.out | apply Kept.alloc | apply Kept.drewN | apply Kept.drew) | exact HK.out)) hb); have n2_ := A_ (below_step (bW0 HB.out) hb); clear HO0; clear HK; clear HB; have HO0 := n0_; have HK := n1_; have HB := n2_; clear n0_ n1_ n2_; (try clear hb)))
  go_ret
  exact ⟨_, by first | rfl | (simp [errW_none, errW_some] <;> rfl) | (simp [*, errW_none, errW_some] <;> rfl), by (with_reducible repeat (first | apply Kd.R_alloc | apply Kd.R_drewN | apply Kd.R_drew)); exact HO0.out, by repeat (first | (with_reducible first | exact HB.out | apply below_alloc | apply pw_below_drewN | apply below_drew1) | exact HB.out), by repeat (first | (with_reducible first | exact HK.out | apply Kept.alloc | apply Kept.drewN | apply Kept.drew) | exact HK.out)⟩
 rw [if_neg c4] at H; have c4b0 : (t101 == (-1)) = false := beq_eq_false_iff_ne.mpr c4; have c4b1 : (t101 != (-1)) = true := bne_iff_ne.mpr c4; have H' := A_ H; clear H; obtain ⟨Ao7, co7, eo7⟩ := Kd.R_slice HO0.out; subst eo7
 go_enter Try.func90, Try.ntmps90
 go_wp2_with (first | ((with_reducible refine gate_callee (f := 86) rfl ?_); refine goesW_ (some 10) Try.func86 #[.slice Ao7 l0.length co7, .func (.func g1) #[] lb1] ?_; (with_reducible refine (slices_IndexFunc_int_int.calls k _ _ l0 HEN1.out a1 t101 _ ?side1 ?side2 ?side3 A3.out).mono ?_); (case side1 => exact cU (Kd.R_reads' HO0.out).2.2); (case side2 => exact (Kd.R_reads' HO0.out).2.1); (case side3 => exact fun z0_ q0_ W_ hW_ hq_ => HFN1.out z0_ q0_ W_ (below_step (bW0 HB.out) hW_) hq_); rintro e w8 ⟨rfl, hb⟩; refine ⟨_, rfl, ?_⟩; have n0_ := A_ (Kd.R_below (rU HO0.out) hb); have n1_ := A_ (Kept.below (S := (fun k_ => P0_ k_)) (by repeat (first | (with_reducible first | exact HK.out | apply Kept.alloc | apply Kept.drewN | apply Kept.drew) | exact HK.out)) hb); have n2_ := A_ (below_step (bW0 HB.out) hb); clear HO0; clear HK; clear HB; have HO0 := n0_; have HK := n1_; have HB := n2_; clear n0_ n1_ n2_; (try clear hb)))
 go_loopg [5, 6] k (fun kq v5 v6 w' => ∃ (x0_1 : List Int) (x5_1 : Int) (x6_1 : Int), v5 = .int .i64 x5_1 ∧ v6 = .int .i64 x6_1 ∧ Aside0 (slices_DeleteFunc_int_int.l0 kq x0_1 a1 x5_1 x6_1 = some r) ∧ Aside0 (kq ≤ k) ∧ Aside0 (Kd.R (Kd.int .i64) 3 w' w0.heap.size (fun k_ => (P0_ k_ ∨ w.heap.size ≤ k_)) (.slice Ao7 l0.length co7) x0_1) ∧ Aside0 (Kept w w' (fun k_ => P0_ k_)) ∧ Aside0 (Below w0.heap.size w0 w'))
 case atStart => exact ⟨(l0), (t101), (wrap64 (t101 + 1)), eS, eS, H', ⟨Nat.le_refl _⟩, ⟨rU HO0.out⟩, ⟨by repeat (first | (with_reducible first | exact HK.out | apply Kept.alloc | apply Kept.drewN | apply Kept.drew) | exact HK.out)⟩, ⟨by repeat (first | (with_reducible first | exact HB.out | apply below_alloc | apply pw_below_drewN | apply below_drew1) | exact HB.out)⟩⟩
 case round =>
  clear H'
  try clear p2; try clear c4; try clear c4b0; try clear c4b1; try clear p6; try clear c8
  obtain ⟨x0_1, x5_1, x6_1, rfl, rfl, HA, HK1, HO_0, HK, HB⟩ := hrel; have hl0_1 := (Kd.R_reads' HO_0.out).1; rw [hl0_1] at HO_0
  (try simp only [hl0_1])
  cases gk with
  | zero => exact absurd HA.out (by simp [slices_DeleteFunc_int_int.l0])
  | succ k1 =>
   have H := HA.out; clear HA; simp only [slices_DeleteFunc_int_int.l0] at H; by_cases c9 : x6_1 < (x0_1.length : Int); rotate_left
   ·rw [if_neg c9] at H
    have c9b0 : decide (x6_1 < (x0_1.length : Int)) = false := decide_eq_false c9
    (try (have c9b0h := c9b0; simp only [hl0_1] at c9b0h))
    clear c9; by_cases c20 : 0 ≤ x5_1; rotate_left
    ·rw [if_neg c20] at H
     exact absurd H (by simp)
    rw [if_pos c20] at H; have c20b0 := eq_true c20; have c20b1 : decide (0 ≤ x5_1) = true := decide_eq_true c20; clear c20; by_cases c21 : x5_1 ≤ (x0_1.length : Int); rotate_left
    ·rw [if_neg c21] at H
     exact absurd H (by simp)
    rw [if_pos c21] at H; have c21b0 := eq_true c21; have c21b1 : decide (x5_1 ≤ (x0_1.length : Int)) = true := decide_eq_true c21; clear c21; obtain ⟨y105, hy105⟩ : ∃ y_ : List Int, y_ = (x0_1.drop (x5_1 : Int).toNat) := ⟨_, rfl⟩
    replace H : (some (x0_1.take (x5_1 : Int).toNat)) = some r := by first | (rw [hy105]; with_reducible exact H) | (have H2_ := (Option.bind_some _ _).symm.trans H; rw [hy105]; with_reducible exact H2_) | (have H2_ := (Option.bind_some _ _).symm.trans H; with_reducible exact H2_) | with_reducible exact H | (rw [hy105]; exact H) | exact H
    have Ny105 := A_ hy105; clear hy105; have c22b0 := eq_true (oD : x5_1 ≤ (x0_1.length : Int)); obtain ⟨y109, hy109⟩ : ∃ y_ : List Int, y_ = (x0_1.take (x5_1 : Int).toNat) := ⟨_, rfl⟩
    replace H : (some y109) = some r := by first | (rw [hy109]; with_reducible exact H) | (have H2_ := (Option.bind_some _ _).symm.trans H; rw [hy109]; with_reducible exact H2_) | (have H2_ := (Option.bind_some _ _).symm.trans H; with_reducible exact H2_) | with_reducible exact H | (rw [hy109]; exact H) | exact H
    have Ny109 := A_ hy109; clear hy109; obtain rfl := Option.some.inj H; have q23 : (x5_1 : Int) ≤ ((x0_1.length : Int) : Int) := oD; obtain ⟨i023, hi023, _, hsz23, _⟩ := info_parts info3; have hroom23 : x0_1.length ≤ co7 := (Kd.R_reads' HO_0.out).2.1; have hC23 : Kd.C (Kd.int .i64) _ Ao7 x0_1.length x0_1 := (Kd.R_reads' HO_0.out).2.2; have q023 : (0 : Int) ≤ (x5_1 : Int) := oD; have hcut23 := cut_from (P := Try.prog) 22 3 .i64 Try.underlying22 hi023 1 hsz23 Ao7 x0_1.length co7 x5_1 q023 q23
    have hr23 := Kd.C_drop (m := (x5_1 : Int).toNat) (c := co7) hC23 (by omega) hroom23
    obtain ⟨A23, hA23⟩ : ∃ A1, A1 = (if co7 = (x5_1 : Int).toNat then Ao7 else (Ao7 : Option Addr).map (·.add ((x5_1 : Int).toNat * 1))) := ⟨_, rfl⟩
    obtain ⟨c23, hc23⟩ : ∃ c1, c1 = co7 - (x5_1 : Int).toNat := ⟨_, rfl⟩
    have hy23 : y105.length = x0_1.length - (x5_1 : Int).toNat := (by rw [Ny105.out, List.length_drop] <;> omega)
    rw [show (x0_1).drop (x5_1 : Int).toNat = y105 from Ny105.out.symm] at hr23
    replace hr23 : Kd.C (Kd.int .i64) _ A23 y105.length y105 := (by rw [hA23]; exact hr23)
    rw [← hy23, ← hA23, ← hc23] at hcut23; have HR108 := A_ hr23
    have HC108 := A_ (show y105.length ≤ c23 from by rw [hy23, hc23]; exact Nat.sub_le_sub_right hroom23 _)
    clear hr23 hC23 hroom23 hi023 hsz23 hc23; have KY23 := A_ hy23; have KA23 := A_ hA23; clear hy23 hA23
    have KL23 := A_ (show (x5_1 : Int).toNat ≤ x0_1.length from by omega)
    replace q23 := eq_true q23; have q24 : (x5_1 : Int) ≤ ((x0_1.length : Int) : Int) := oD; obtain ⟨i024, hi024, _, hsz24, _⟩ := info_parts info3; have hcut24 := cut_to (P := Try.prog) 22 3 .i64 Try.underlying22 hi024 Ao7 x0_1.length co7 x5_1 (oD) q24 (Kd.R_reads' HO_0.out).2.1
    obtain ⟨W2_, hclr_, hr24, hg_⟩ := clear_own HO_0.out rfl (x5_1 : Int).toNat (by omega) KA23.out c23 y105.length KY23.out
    have HB2_ := A_ (HB.out.grown hg_ HB.out.size (Kd.R_base HO_0.out))
    have HK2_ := A_ (Kept.of_grown hg_ HK.out (fun k_ hk_ => HO_0.out.1 k_ hk_))
    have hy24 : y109.length = (x5_1 : Int).toNat := (by rw [Ny109.out, List.length_take]; omega)
    rw [← Ny109.out] at hr24; rw [← hy24] at hr24 hcut24; clear hy24 hi024 hsz24 HO_0 hg_; have HO111 := A_ hr24; clear hr24; replace q24 := eq_true q24
    go_wp2_with (simp only [hclr_])
    go_ret
    exact ⟨_, by first | rfl | (simp [errW_none, errW_some] <;> rfl) | (simp [*, errW_none, errW_some] <;> rfl), HO111.out, HB2_.out, HK2_.out⟩
   rw [if_pos c9] at H; have c9b0 : decide (x6_1 < (x0_1.length : Int)) = true := decide_eq_true c9
   (try (have c9b0h := c9b0; simp only [hl0_1] at c9b0h))
   clear c9; by_cases c10 : 0 ≤ x6_1; rotate_left
   ·rw [if_neg c10] at H
    exact absurd H (by simp)
   rw [if_pos c10] at H; have c10b0 : decide (0 ≤ x6_1) = true := decide_eq_true c10; clear c10; replace H := Option.bind_eq_some_iff.mp H; obtain ⟨t103, A110, H⟩ := H; (try dsimp only at H); have A11 := A_ A110; clear A110; by_cases c12 : t103 = true
   ·subst c12
    rw [if_pos rfl] at H; have H' := A_ H; clear H; have p102 : 0 ≤ (x6_1 : Int) := oD; have q102 : x6_1 < (x0_1.length : Int) := oD; obtain ⟨ad102, e102, hx102_0⟩ := Kd.at_int (Kd.R_reads' HO_0.out).2.2 x6_1 p102 q102
    cases e102
    replace p102 := eq_true p102; replace q102 := eq_true q102
    go_wp2_with (first | ((with_reducible refine gate_fv (T := 26) rfl ?_); refine goesF_ (some 28) rfl rfl HEN1.out (lb := lb1) #[.int .i64 (rd x0_1 x6_1)] rfl rfl (by (try simp only [List.map_toArray, List.map_cons, List.map_nil]); first | done | rfl | (simp only [List.length_drop, List.length_take]; rfl)) ?_; (with_reducible refine (HFN1.out (rd x0_1 x6_1) true _ (bW0 HB.out) A11.out).mono ?_); rintro e w13 ⟨rfl, hb⟩; refine ⟨_, rfl, ?_⟩; have n0_ := A_ (Kd.R_below (rU HO_0.out) hb); have n1_ := A_ (Kept.below (S := (fun k_ => P0_ k_)) (by repeat (first | (with_reducible first | exact HK.out | apply Kept.alloc | apply Kept.drewN | apply Kept.drew) | exact HK.out)) hb); have n2_ := A_ (below_step (bW0 HB.out) hb); clear HO_0; clear HK; clear HB; have HO_0 := n0_; have HK := n1_; have HB := n2_; clear n0_ n1_ n2_; (try clear hb)))
    (try simp only [← hl0_1])
    go_roundg k1
    case measure => have := HK1.out; omega
    case rel => exact ⟨(x0_1), (x5_1), (wrap64 (x6_1 + 1)), eS, eS, H', ⟨by have := HK1.out; omega⟩, ⟨by (try simp only [hl0_1]); (with_reducible repeat (first | apply Kd.R_alloc | apply Kd.R_drewN | apply Kd.R_drew)); exact HO_0.out⟩, ⟨by repeat (first | (with_reducible first | exact HK.out | apply Kept.alloc | apply Kept.drewN | apply Kept.drew) | exact HK.out)⟩, ⟨by repeat (first | (with_reducible first | exact HB.out | apply below_alloc | apply pw_below_drewN | apply below_drew1) | exact HB.out)⟩⟩
   replace c12 := Bool.eq_false_iff.mpr c12; subst c12; rw [if_neg (show ¬ (false = true) by decide)] at H; by_cases c14 : 0 ≤ x5_1; rotate_left
   ·rw [if_neg c14] at H
    exact absurd H (by simp)
   rw [if_pos c14] at H; have c14b0 : decide (0 ≤ x5_1) = true := decide_eq_true c14; clear c14; by_cases c15 : x5_1 < (x0_1.length : Int); rotate_left
   ·rw [if_neg c15] at H
    exact absurd H (by simp)
   rw [if_pos c15] at H; have c15b0 : decide (x5_1 < (x0_1.length : Int)) = true := decide_eq_true c15
   (try (have c15b0h := c15b0; simp only [hl0_1] at c15b0h))
   clear c15; obtain ⟨y104, hy104⟩ : ∃ y_ : List Int, y_ = (x0_1.set (x5_1 : Int).toNat (rd x0_1 x6_1)) := ⟨_, rfl⟩
   replace H : (slices_DeleteFunc_int_int.l0 k1 y104 a1 (wrap64 (x5_1 + 1)) (wrap64 (x6_1 + 1))) = some r := by first | (rw [hy104]; with_reducible exact H) | (have H2_ := (Option.bind_some _ _).symm.trans H; rw [hy104]; with_reducible exact H2_) | (have H2_ := (Option.bind_some _ _).symm.trans H; with_reducible exact H2_) | with_reducible exact H | (rw [hy104]; exact H) | exact H
   have Ny104 := A_ hy104; clear hy104; have H' := A_ H; clear H; have p102 : 0 ≤ (x6_1 : Int) := oD; have q102 : x6_1 < (x0_1.length : Int) := oD; obtain ⟨ad102, e102, hx102_0⟩ := Kd.at_int (Kd.R_reads' HO_0.out).2.2 x6_1 p102 q102
   cases e102
   replace p102 := eq_true p102; replace q102 := eq_true q102
   go_wp2_with (first | ((with_reducible refine gate_fv (T := 26) rfl ?_); refine goesF_ (some 28) rfl rfl HEN1.out (lb := lb1) #[.int .i64 (rd x0_1 x6_1)] rfl rfl (by (try simp only [List.map_toArray, List.map_cons, List.map_nil]); first | done | rfl | (simp only [List.length_drop, List.length_take]; rfl)) ?_; (with_reducible refine (HFN1.out (rd x0_1 x6_1) false _ (bW0 HB.out) A11.out).mono ?_); rintro e w17 ⟨rfl, hb⟩; refine ⟨_, rfl, ?_⟩; have n0_ := A_ (Kd.R_below (rU HO_0.out) hb); have n1_ := A_ (Kept.below (S := (fun k_ => P0_ k_)) (by repeat (first | (with_reducible first | exact HK.out | apply Kept.alloc | apply Kept.drewN | apply Kept.drew) | exact HK.out)) hb); have n2_ := A_ (below_step (bW0 HB.out) hb); clear HO_0; clear HK; clear HB; have HO_0 := n0_; have HK := n1_; have HB := n2_; clear n0_ n1_ n2_; (try clear hb); have p16 : 0 ≤ (x5_1 : Int) := oD; have q16 : (x5_1 : Int) < ((x0_1.length : Int) : Int) := oD; obtain ⟨go16, co16, eo16, gb16, gl16, cl16, HG16⟩ := Kd.R_form HO_0.out (by omega); (first | cases eo16 | (injection eo16 with ea_ en_ ec_; (first | subst ea_ | (injection ea_ with ea_; subst ea_)); subst ec_; clear en_)); have GB16 := A_ gb16; have GG16 := A_ HG16; clear gb16 gl16 HG16; have HMgo16 := A_ (show (P0_ go16 ∨ w.heap.size ≤ go16) from (HO_0.out.1 _ rfl)); (first | simp only [add_plain] at hx102_0 | skip); obtain ⟨hx16_0, hf16_0⟩ := Kd.R_celln 0 HO_0.out (x5_1 : Int) p16 q16; replace p16 := eq_true p16; replace q16 := eq_true q16; obtain ⟨hy18_, hz18_⟩ := Kd.R_celln 0 HO_0.out (x5_1 : Int) (oD) (oD); have HP18 := Kd.R_putg HO_0.out (x5_1 : Int) (rd x0_1 x6_1)) | ((with_reducible refine gate_store (t := 3) (p := 33) rfl ?_); refine store_event (t := 3) (p := 33) (v := ?vo_w19) (w1 := (w17.setCell ⟨go16, (x5_1 : Int).toNat, none⟩ (.int .i64 (rd x0_1 x6_1)))) ?hg ?ho ?hn ?hr ?_; (case ho => rfl); (case hg => rfl); (case hn => rfl); (case hr => first | (go_simp; done) | (go_simp; rfl)); intro w19 hw; have hg : w17.grownBy w19 (some go16) := (by rw [hw]; exact HP18.2); have hp_ : Kd.R (Kd.int .i64) 3 w19 w0.heap.size (fun k_ => (P0_ k_ ∨ w.heap.size ≤ k_)) (.slice (some ⟨go16, 0, none⟩) x0_1.length co7) y104 := (by rw [hw, Ny104.out]; exact HP18.1); clear HP18; have n0_ := A_ (hp_); have n1_ := A_ ((by rw [hw]; exact below_set (HB.out) GB16.out : Below w0.heap.size w0 w19)); have n2_ := A_ (Kept.of_grown (S := (fun k_ => P0_ k_)) hg (by repeat (first | (with_reducible first | exact HK.out | apply Kept.alloc | apply Kept.drewN | apply Kept.drew) | exact HK.out)) (fun k_ e_ => (HO_0.out.1 k_ e_))); clear HO_0; clear HB; clear HK; have HO_0 := n0_; have HB := n1_; have HK := n2_; clear n0_ n1_ n2_; clear hg hw hp_))
   (try simp only [← hl0_1])
   go_roundg k1
   case measure => have := HK1.out; omega
   case rel => exact ⟨(y104), (wrap64 (x5_1 + 1)), (wrap64 (x6_1 + 1)), eS, eS, H', ⟨by have := HK1.out; omega⟩, ⟨by (try simp only [hl0_1]); (with_reducible repeat (first | apply Kd.R_alloc | apply Kd.R_drewN | apply Kd.R_drew)); exact HO_0.out⟩, ⟨by repeat (first | (with_reducible first | exact HK.out | apply Kept.alloc | apply Kept.drewN | apply Kept.drew) | exact HK.out)⟩, ⟨by repeat (first | (with_reducible first | exact HB.out | apply below_alloc | apply pw_below_drewN | apply below_drew1) | exact HB.out)⟩⟩
def ice_game_urgent_1.f (a0 : Int) : Option (Bool) := some (a0 == (-1))
set_option maxHeartbeats 8000000 in
set_option maxRecDepth 100000 in
theorem ice_game_urgent_1.calls (a0 : Int) (r : Bool) (w : World) (h : ice_game_urgent_1.f a0 = some r) :
  Calls Try.prog 91 #[.int .i64 a0] w fun e w' => e = .returned (.bool r) ∧ Drawn0 w w' := by
 have H : (some (a0 == (-1))) = some r := h
 clear h
 obtain rfl := Option.some.inj H
 go_enter Try.func91, Try.ntmps91
 go_wp2
 go_ret
 exact ⟨by first | rfl | (simp; done) | (simp [*]; done), by repeat (first | exact Drawn0.refl _ | apply Drawn0.step)⟩
def slices_MinFunc_int_int.l0 : Nat → List Int → (Int → Int → Option (Int)) → Int → Int → Option (Int)
 | 0, _, _, _, _ => none
 | k + 1, x0, x1, x5, x6 => if x6 < (x0.length : Int) then (if 0 ≤ x6 then ((x1 (rd x0 x6) x5).bind fun t103 => (if t103 < 0 then (slices_MinFunc_int_int.l0 k x0 x1 (rd x0 x6) (wrap64 (x6 + 1))) else (slices_MinFunc_int_int.l0 k x0 x1 x5 (wrap64 (x6 + 1))))) else (none)) else (some x5)
def slices_MinFunc_int_int.f (k : Nat) (l0 : List Int) (a1 : (Int → Int → Option (Int))) : Option (Int) := if (l0.length : Int) < 1 then (none) else (if 0 < (l0.length : Int) then (slices_MinFunc_int_int.l0 k l0 a1 (rd l0 0) 1) else (none))
theorem slices_MinFunc_int_int.mono_l : ∀ k, (∀ y0 y1 y2 y3, LeO (slices_MinFunc_int_int.l0 k y0 y1 y2 y3) (slices_MinFunc_int_int.l0 (k + 1) y0 y1 y2 y3))
 | 0 => fun _ _ _ _ r h => by simp [slices_MinFunc_int_int.l0] at h
 | k + 1 => by
  have ih0 := slices_MinFunc_int_int.mono_l k
  ·intro y0 y1 y2 y3
   unfold slices_MinFunc_int_int.l0
   repeat' first
   | (with_reducible exact ih0 _ _ _ _)
   | (with_reducible exact LeO.refl _)
   | (with_reducible exact LeO.none _)
   | (with_reducible refine LeO.ite ?_ ?_)
   | (with_reducible refine LeO.bind ?_ (fun _ => ?_))
   | exact ih0 _ _ _ _
   | exact LeO.none _
   | refine LeO.ite ?_ ?_
   | refine LeO.bind ?_ (fun _ => ?_)
theorem slices_MinFunc_int_int.mono : ∀ a0 a1 k, LeO (slices_MinFunc_int_int.f k a0 a1) (slices_MinFunc_int_int.f (k + 1) a0 a1) := by
 intro a0 a1 k
 have ih0 := slices_MinFunc_int_int.mono_l k
 unfold slices_MinFunc_int_int.f
 repeat' first
   | (with_reducible exact ih0 _ _ _ _)
   | (with_reducible exact LeO.refl _)
   | (with_reducible exact LeO.none _)
   | (with_reducible refine LeO.ite ?_ ?_)
   | (with_reducible refine LeO.bind ?_ (fun _ => ?_))
   | exact ih0 _ _ _ _
   | exact LeO.none _
   | refine LeO.ite ?_ ?_
   | refine LeO.bind ?_ (fun _ => ?_)
set_option maxHeartbeats 8000000 in
set_option maxRecDepth 100000 in
theorem slices_MinFunc_int_int.calls (k : Nat) (A0 : Option Addr) (c0 : Nat) (l0 : List Int) {g1 : FuncId} {lb1 : Array Value} (hen1 : EntersF Try.prog g1) (a1 : (Int → Int → Option (Int))) (r : Int) (w : World) (hr0 : Kd.C (Kd.int .i64) w A0 l0.length l0) (hc0 : l0.length ≤ c0) (hfn1 : ∀ (z0_ : Int) (z1_ : Int) (q0_ : Int) (W_ : World), Below w.heap.size w W_ → a1 z0_ z1_ = some q0_ → Calls Try.prog g1 (#[.int .i64 z0_, .int .i64 z1_] ++ lb1) W_ fun e w' => e = .returned (.int .i64 q0_) ∧ Below W_.heap.size W_ w') (h : slices_MinFunc_int_int.f k l0 a1 = some r) :
  Calls Try.prog 92 #[.slice A0 l0.length c0, .func (.func g1) #[] lb1] w fun e w' => e = .returned (.int .i64 r) ∧ Below w.heap.size w w' := by
 have HR0 := A_ hr0
 have HC0 := A_ hc0
 clear hr0 hc0
 have HFN1 := A_ hfn1
 have HEN1 := A_ hen1
 clear hfn1 hen1
 have HB := A_ (Below.refl w.heap.size w)
 have H : (if (l0.length : Int) < 1 then (none) else (if 0 < (l0.length : Int) then (slices_MinFunc_int_int.l0 k l0 a1 (rd l0 0) 1) else (none))) = some r := h
 clear h
 by_cases c3 : (l0.length : Int) < 1
 ·rw [if_pos c3] at H
  exact absurd H (by simp)
 rw [if_neg c3] at H
 have c3b0 : decide ((l0.length : Int) < 1) = false := decide_eq_false c3
 have c3b1 : decide (l0.length < 1) = false := decide_eq_false (by omega)
 clear c3
 by_cases c4 : 0 < (l0.length : Int)
 rotate_left
 ·rw [if_neg c4] at H
  exact absurd H (by simp)
 rw [if_pos c4] at H
 have c4b0 : decide (0 < (l0.length : Int)) = true := decide_eq_true c4
 have c4b1 : decide (0 < l0.length) = true := decide_eq_true (by omega)
 clear c4
 have H' := A_ H
 clear H
 have p101 : 0 ≤ (0 : Int) := (by omega)
 have q101 : 0 < (l0.length : Int) := oD
 obtain ⟨ad101, e101, hx101_0⟩ := Kd.at_int HR0.out 0 p101 q101
 cases e101
 have qi101 : (0 < l0.length) = True := eq_true (by omega)
 (try rw [show ((0 : Int)).toNat = 0 from rfl] at hx101_0)
 (try rw [Addr.add_zero'] at hx101_0)
 replace p101 := eq_true p101
 replace q101 := eq_true q101
 go_enter Try.func92, Try.ntmps92
 go_wp2
 go_loopg [5, 6] k (fun kq v5 v6 w' => ∃ (x5_1 : Int) (x6_1 : Int), v5 = .int .i64 x5_1 ∧ v6 = .int .i64 x6_1 ∧ Aside0 (slices_MinFunc_int_int.l0 kq l0 a1 x5_1 x6_1 = some r) ∧ Aside0 (kq ≤ k) ∧ Aside0 (Below w.heap.size w w'))
 case atStart => exact ⟨(rd l0 0), (1), eS, eS, H', ⟨Nat.le_refl _⟩, ⟨by repeat (first | (with_reducible first | exact HB.out | apply below_alloc | apply pw_below_drewN | apply below_drew1) | exact HB.out)⟩⟩
 case round =>
  clear H'
  try clear p1; try clear q1; try clear hx1; try clear qi1; try clear p2; try clear c3; try clear c3b0; try clear c3b1; try clear c4; try clear c4b0; try clear c4b1; try clear hx101_0; try clear p101; try clear q101
  obtain ⟨x5_1, x6_1, rfl, rfl, HA, HK1, HB⟩ := hrel
  cases gk with
  | zero => exact absurd HA.out (by simp [slices_MinFunc_int_int.l0])
  | succ k1 =>
   have H := HA.out
   clear HA
   simp only [slices_MinFunc_int_int.l0] at H
   by_cases c5 : x6_1 < (l0.length : Int)
   rotate_left
   ·rw [if_neg c5] at H
    have c5b0 : decide (x6_1 < (l0.length : Int)) = false := decide_eq_false c5
    clear c5
    obtain rfl := Option.some.inj H
    go_wp2
    go_ret
    exact ⟨eQ, by repeat (first | (with_reducible first | exact HB.out | apply below_alloc | apply pw_below_drewN | apply below_drew1) | exact HB.out)⟩
   rw [if_pos c5] at H
   have c5b0 : decide (x6_1 < (l0.length : Int)) = true := decide_eq_true c5
   clear c5
   by_cases c6 : 0 ≤ x6_1
   rotate_left
   ·rw [if_neg c6] at H
    exact absurd H (by simp)
   rw [if_pos c6] at H
   have c6b0 : decide (0 ≤ x6_1) = true := decide_eq_true c6
   clear c6
   replace H := Option.bind_eq_some_iff.mp H
   obtain ⟨t103, A70, H⟩ := H
   replace H : (if t103 < 0 then (slices_MinFunc_int_int.l0 k1 l0 a1 (rd l0 x6_1) (wrap64 (x6_1 + 1))) else (slices_MinFunc_int_int.l0 k1 l0 a1 x5_1 (wrap64 (x6_1 + 1)))) = some r := H
   have A7 := A_ A70
   clear A70
   by_cases c8 : t103 < 0
   rotate_left
   ·rw [if_neg c8] at H
    have c8b0 : decide (t103 < 0) = false := decide_eq_false c8
    clear c8
    have H' := A_ H
    clear H
    have p102 : 0 ≤ (x6_1 : Int) := oD
    have q102 : x6_1 < (l0.length : Int) := oD
    obtain ⟨ad102, e102, hx102_0⟩ := Kd.at_int HR0.out x6_1 p102 q102
    obtain rfl : ad101 = ad102 := (by injection e102)
    replace hx102_0 := (HB.out.cell (World.block_lt_of_cell? w _ hx102_0)).trans hx102_0
    replace p102 := eq_true p102
    replace q102 := eq_true q102
    go_wp2_with (first | ((with_reducible refine gate_fv (T := 20) rfl ?_); refine goesF_ (some 26) rfl rfl HEN1.out (lb := lb1) #[.int .i64 (rd l0 x6_1), .int .i64 x5_1] rfl rfl (by (try simp only [List.map_toArray, List.map_cons, List.map_nil]); first | done | rfl | (simp only [List.length_drop, List.length_take]; rfl)) ?_; (with_reducible refine (HFN1.out (rd l0 x6_1) x5_1 t103 _ (bW0 HB.out) A7.out).mono ?_); rintro e w10 ⟨rfl, hb⟩; refine ⟨_, rfl, ?_⟩; have n0_ := A_ (below_step (bW0 HB.out) hb); clear HB; have HB := n0_; clear n0_; (try clear hb)))
    go_roundg k1
    case measure => have := HK1.out; omega
    case rel => exact ⟨(x5_1), (wrap64 (x6_1 + 1)), eS, eS, H', ⟨by have := HK1.out; omega⟩, ⟨by repeat (first | (with_reducible first | exact HB.out | apply below_alloc | apply pw_below_drewN | apply below_drew1) | exact HB.out)⟩⟩
   rw [if_pos c8] at H
   have c8b0 : decide (t103 < 0) = true := decide_eq_true c8
   clear c8
   have H' := A_ H
   clear H
   have p102 : 0 ≤ (x6_1 : Int) := oD
   have q102 : x6_1 < (l0.length : Int) := oD
   obtain ⟨ad102, e102, hx102_0⟩ := Kd.at_int HR0.out x6_1 p102 q102
   obtain rfl : ad101 = ad102 := (by injection e102)
   replace hx102_0 := (HB.out.cell (World.block_lt_of_cell? w _ hx102_0)).trans hx102_0
   replace p102 := eq_true p102
   replace q102 := eq_true q102
   go_wp2_with (first | ((with_reducible refine gate_fv (T := 20) rfl ?_); refine goesF_ (some 26) rfl rfl HEN1.out (lb := lb1) #[.int .i64 (rd l0 x6_1), .int .i64 x5_1] rfl rfl (by (try simp only [List.map_toArray, List.map_cons, List.map_nil]); first | done | rfl | (simp only [List.length_drop, List.length_take]; rfl)) ?_; (with_reducible refine (HFN1.out (rd l0 x6_1) x5_1 t103 _ (bW0 HB.out) A7.out).mono ?_); rintro e w9 ⟨rfl, hb⟩; refine ⟨_, rfl, ?_⟩; have n0_ := A_ (below_step (bW0 HB.out) hb); clear HB; have HB := n0_; clear n0_; (try clear hb); have p104 : 0 ≤ (x6_1 : Int) := oD; have q104 : x6_1 < (l0.length : Int) := oD; obtain ⟨ad104, e104, hx104_0⟩ := Kd.at_int HR0.out x6_1 p104 q104; obtain rfl : ad101 = ad104 := (by injection e104); replace hx104_0 := (HB.out.cell (World.block_lt_of_cell? w _ hx104_0)).trans hx104_0; replace p104 := eq_true p104; replace q104 := eq_true q104))
   go_roundg k1
   case measure => have := HK1.out; omega
   case rel => exact ⟨(rd l0 x6_1), (wrap64 (x6_1 + 1)), eS, eS, H', ⟨by have := HK1.out; omega⟩, ⟨by repeat (first | (with_reducible first | exact HB.out | apply below_alloc | apply pw_below_drewN | apply below_drew1) | exact HB.out)⟩⟩
end Go.Proofs.Ythbpibdfookbmaa.G
end
