/- Functions of the seat and plain laws about them: GF13. -/
import Derived.Test.YtklapbgajghhcaaGBase
import Derived.Test.YtklapbgajghhcaaZW0
import Derived.Test.YtklapbgajghhcaaZW6
import Derived.Test.YtklapbgajghhcaaZW9
section
namespace Go.Proofs.Ytklapbgajghhcaa.G
open Go.RowKit Go.Proofs.YtklapbgajghhcaaW.PrintWords Go.Proofs.YtklapbgajghhcaaW.PrintLast Go.Proofs.YtklapbgajghhcaaW.PrintMore
attribute [local go_sem] max2_int min2_int max_two min_two max_three min_three max_four min_four
set_option linter.unusedVariables false
set_option linter.unusedSimpArgs false
def dropperref07_Grows.l0 : Nat → List (S35) → Int → Option (Bool × Int)
  | 0, _, _ => none
  | k + 1, x1, x6 => if x6 < (x1.length : Int) then (if 0 ≤ x6 then (if 0 ≤ (wrap64 (x6 - 1)) then (if (wrap64 (x6 - 1)) < (x1.length : Int) then ((dropperref07_Less.f ((rd_T35 x1 x6).f0) ((rd_T35 x1 x6).f1) ((rd_T35 x1 (wrap64 (x6 - 1))).f0) ((rd_T35 x1 (wrap64 (x6 - 1))).f1)).bind fun t105 => (if t105 = true then (some (false, 0)) else (dropperref07_Grows.l0 k x1 (wrap64 (x6 + 1))))) else (none)) else (none)) else (none)) else (some (true, 0))
def dropperref07_Grows.f (k : Nat) (l0 : List Int) (l1 : List (S35)) : Option (Bool × Int) := (dropperref07_Valid.f k l0).bind fun t101 => (if t101 = true then ((dropperref07_IsRow.f k l0 l1).bind fun t102 => (if t102 = true then (dropperref07_Grows.l0 k l1 1) else (some (false, 2)))) else (some (false, 70)))
theorem dropperref07_Grows.mono_l : ∀ k, (∀ y0 y1, LeO (dropperref07_Grows.l0 k y0 y1) (dropperref07_Grows.l0 (k + 1) y0 y1))
  | 0 => fun _ _ r h => by simp [dropperref07_Grows.l0] at h
  | k + 1 => by
    have ih0 := dropperref07_Grows.mono_l k
    · intro y0 y1
      unfold dropperref07_Grows.l0
      repeat' first
      | (with_reducible exact ih0 _ _)
      | (with_reducible exact dropperref07_IsRow.mono _ _ _)
      | (with_reducible exact dropperref07_Valid.mono _ _)
      | (with_reducible exact LeO.refl _)
      | (with_reducible exact LeO.none _)
      | (with_reducible refine LeO.ite ?_ ?_)
      | (with_reducible refine LeO.bind ?_ (fun _ => ?_))
      | exact ih0 _ _
      | exact dropperref07_IsRow.mono _ _ _
      | exact dropperref07_Valid.mono _ _
      | exact LeO.none _
      | refine LeO.ite ?_ ?_
      | refine LeO.bind ?_ (fun _ => ?_)
theorem dropperref07_Grows.mono : ∀ a0 a1 k, LeO (dropperref07_Grows.f k a0 a1) (dropperref07_Grows.f (k + 1) a0 a1) := by
  intro a0 a1 k
  have ih0 := dropperref07_Grows.mono_l k
  unfold dropperref07_Grows.f
  repeat' first
      | (with_reducible exact ih0 _ _)
      | (with_reducible exact dropperref07_IsRow.mono _ _ _)
      | (with_reducible exact dropperref07_Valid.mono _ _)
      | (with_reducible exact LeO.refl _)
      | (with_reducible exact LeO.none _)
      | (with_reducible refine LeO.ite ?_ ?_)
      | (with_reducible refine LeO.bind ?_ (fun _ => ?_))
      | exact ih0 _ _
      | exact dropperref07_IsRow.mono _ _ _
      | exact dropperref07_Valid.mono _ _
      | exact LeO.none _
      | refine LeO.ite ?_ ?_
      | refine LeO.bind ?_ (fun _ => ?_)
def dropperref07_Grows.T8 : Bool × List (List Nat × List Nat) := (true, [([], []), ([], []), ([0, 1], [0, 1]), ([2], [2]), ([], []), ([], []), ([5], [5]), ([4, 6], [4, 6]), ([7], [7]), ([3, 8], [3, 8])])
def dropperref07_Grows.B8 : List Nat := [0, 0, 3, 7, 0, 0, 32, 112, 240, 511]
theorem dropperref07_Grows.tab8 : rtab .any (opsOf Try.f13 8) = dropperref07_Grows.T8 := by kernel_rfl
theorem dropperref07_Grows.bits8 : waitsOk dropperref07_Grows.T8.2 dropperref07_Grows.B8 = true := by kernel_rfl
set_option maxHeartbeats 8000000 in
set_option maxRecDepth 100000 in
theorem dropperref07_Grows.calls (k : Nat) (A0 : Option Addr) (c0 : Nat) (l0 : List Int) (A1 : Option Addr) (c1 : Nat) (l1 : List (S35)) (r1 : Bool) (r2 : Int) (w : World) (hr0 : Kd.C (Kd.int .i64) w A0 l0.length l0) (hc0 : l0.length ≤ c0) (hr1 : Kd.C k35 w A1 l1.length l1) (hc1 : l1.length ≤ c1) (h : dropperref07_Grows.f k l0 l1 = some (r1, r2)) :
    Calls Try.prog 13 #[.slice A0 l0.length c0, .slice A1 l1.length c1] w fun e w' => e = .returned (.tuple #[.bool r1, .int .i64 r2]) ∧ Below w.heap.size w w' := by
  have hu35 := Try.underlying35
  have HR0 := Aside0.mk hr0
  have HC0 := Aside0.mk hc0
  clear hr0 hc0
  have HR1 := Aside0.mk hr1
  have HC1 := Aside0.mk hc1
  clear hr1 hc1
  have HB := Aside0.mk (Below.refl w.heap.size w)
  have H : ((dropperref07_Valid.f k l0).bind fun t101 => (if t101 = true then ((dropperref07_IsRow.f k l0 l1).bind fun t102 => (if t102 = true then (dropperref07_Grows.l0 k l1 1) else (some (false, 2)))) else (some (false, 70)))) = some (r1, r2) := h
  clear h
  replace H := Option.bind_eq_some_iff.mp H
  obtain ⟨t101, A30, H⟩ := H
  replace H : (if t101 = true then ((dropperref07_IsRow.f k l0 l1).bind fun t102 => (if t102 = true then (dropperref07_Grows.l0 k l1 1) else (some (false, 2)))) else (some (false, 70))) = some (r1, r2) := H
  have A3 := Aside0.mk A30
  clear A30
  by_cases c4 : t101 = true
  rotate_left
  · replace c4 := Bool.eq_false_iff.mpr c4
    subst c4
    have H1 : (some (false, 70)) = some (r1, r2) := by rw [if_neg (show ¬ (false = true) by decide)] at H; exact H
    clear H
    have H := H1
    clear H1
    simp only [Option.some.injEq, Prod.mk.injEq] at H
    obtain ⟨rfl, rfl⟩ := H
    go_enter Try.func13, Try.ntmps13
    go_wp2_with (first | ((with_reducible refine gate_callee (f := 4) rfl ?_); refine goesL_ (some 9) rfl rfl Try.func4 (by kernel_rfl) rfl #[.slice A0 l0.length c0] rfl (by (try simp only [List.map_toArray, List.map_cons, List.map_nil]); first | done | rfl | (simp only [List.length_drop, List.length_take]; rfl)) ?_; (with_reducible refine (dropperref07_Valid.calls k _ _ l0 false _ ?side1 ?side2 A3.out).mono ?_); (case side1 => repeat (first | exact HR0.out | (with_reducible refine Kd.C_alloc ?_ _) | (with_reducible refine Kd.C_drewN ?_ _) | (with_reducible refine Kd.C_drew ?_))); (case side2 => exact HC0.out); rintro e w' ⟨rfl, ⟨nd, rfl⟩⟩; refine ⟨_, rfl, ?_⟩))
    go_ret2
    exact ⟨by first | rfl | (simp [errW_none, errW_some] <;> rfl) | (simp [*, errW_none, errW_some] <;> rfl), by repeat (first | (with_reducible first | exact HB.out | apply below_alloc | apply pw_below_drewN | apply below_drew1) | exact HB.out)⟩
  subst c4
  have H1 : ((dropperref07_IsRow.f k l0 l1).bind fun t102 => (if t102 = true then (dropperref07_Grows.l0 k l1 1) else (some (false, 2)))) = some (r1, r2) := by rw [if_pos rfl] at H; exact H
  clear H
  have H := H1
  clear H1
  replace H := Option.bind_eq_some_iff.mp H
  obtain ⟨t102, A50, H⟩ := H
  replace H : (if t102 = true then (dropperref07_Grows.l0 k l1 1) else (some (false, 2))) = some (r1, r2) := H
  have A5 := Aside0.mk A50
  clear A50
  by_cases c6 : t102 = true
  rotate_left
  · replace c6 := Bool.eq_false_iff.mpr c6
    subst c6
    have H1 : (some (false, 2)) = some (r1, r2) := by rw [if_neg (show ¬ (false = true) by decide)] at H; exact H
    clear H
    have H := H1
    clear H1
    simp only [Option.some.injEq, Prod.mk.injEq] at H
    obtain ⟨rfl, rfl⟩ := H
    go_enter Try.func13, Try.ntmps13
    go_wp2_with (first | ((with_reducible refine gate_callee (f := 4) rfl ?_); refine goesL_ (some 9) rfl rfl Try.func4 (by kernel_rfl) rfl #[.slice A0 l0.length c0] rfl (by (try simp only [List.map_toArray, List.map_cons, List.map_nil]); first | done | rfl | (simp only [List.length_drop, List.length_take]; rfl)) ?_; (with_reducible refine (dropperref07_Valid.calls k _ _ l0 true _ ?side1 ?side2 A3.out).mono ?_); (case side1 => repeat (first | exact HR0.out | (with_reducible refine Kd.C_alloc ?_ _) | (with_reducible refine Kd.C_drewN ?_ _) | (with_reducible refine Kd.C_drew ?_))); (case side2 => exact HC0.out); rintro e w' ⟨rfl, ⟨nd, rfl⟩⟩; refine ⟨_, rfl, ?_⟩) | ((with_reducible refine gate_callee (f := 8) rfl ?_); refine goesL_ (some 14) rfl rfl Try.func8 (by kernel_rfl) rfl #[.slice A0 l0.length c0, .slice A1 l1.length c1] rfl (by (try simp only [List.map_toArray, List.map_cons, List.map_nil]); first | done | rfl | (simp only [List.length_drop, List.length_take]; rfl)) ?_; (with_reducible refine (dropperref07_IsRow.calls k _ _ l0 _ _ l1 false _ ?side1 ?side2 ?side3 ?side4 A5.out).mono ?_); (case side1 => repeat (first | exact HR0.out | (with_reducible refine Kd.C_alloc ?_ _) | (with_reducible refine Kd.C_drewN ?_ _) | (with_reducible refine Kd.C_drew ?_))); (case side2 => exact HC0.out); (case side3 => repeat (first | exact HR1.out | (with_reducible refine Kd.C_alloc ?_ _) | (with_reducible refine Kd.C_drewN ?_ _) | (with_reducible refine Kd.C_drew ?_))); (case side4 => exact HC1.out); rintro e w19 ⟨rfl, hb⟩; refine ⟨_, rfl, ?_⟩; have n0_ := Aside0.mk (below_step (by repeat (first | (with_reducible first | exact HB.out | apply below_alloc | apply pw_below_drewN | apply below_drew1) | exact HB.out)) hb); clear HB; have HB := n0_; clear n0_; (try clear hb); (try clear hb2); (try clear hk); (try clear hi)))
    go_ret2
    exact ⟨by first | rfl | (simp [errW_none, errW_some] <;> rfl) | (simp [*, errW_none, errW_some] <;> rfl), by repeat (first | (with_reducible first | exact HB.out | apply below_alloc | apply pw_below_drewN | apply below_drew1) | exact HB.out)⟩
  subst c6
  have H1 : (dropperref07_Grows.l0 k l1 1) = some (r1, r2) := by rw [if_pos rfl] at H; exact H
  clear H
  have H := H1
  clear H1
  have H' := Aside0.mk H
  clear H
  go_enter Try.func13, Try.ntmps13
  go_wp2_with (first | ((with_reducible refine gate_callee (f := 4) rfl ?_); refine goesL_ (some 9) rfl rfl Try.func4 (by kernel_rfl) rfl #[.slice A0 l0.length c0] rfl (by (try simp only [List.map_toArray, List.map_cons, List.map_nil]); first | done | rfl | (simp only [List.length_drop, List.length_take]; rfl)) ?_; (with_reducible refine (dropperref07_Valid.calls k _ _ l0 true _ ?side1 ?side2 A3.out).mono ?_); (case side1 => repeat (first | exact HR0.out | (with_reducible refine Kd.C_alloc ?_ _) | (with_reducible refine Kd.C_drewN ?_ _) | (with_reducible refine Kd.C_drew ?_))); (case side2 => exact HC0.out); rintro e w' ⟨rfl, ⟨nd, rfl⟩⟩; refine ⟨_, rfl, ?_⟩) | ((with_reducible refine gate_callee (f := 8) rfl ?_); refine goesL_ (some 14) rfl rfl Try.func8 (by kernel_rfl) rfl #[.slice A0 l0.length c0, .slice A1 l1.length c1] rfl (by (try simp only [List.map_toArray, List.map_cons, List.map_nil]); first | done | rfl | (simp only [List.length_drop, List.length_take]; rfl)) ?_; (with_reducible refine (dropperref07_IsRow.calls k _ _ l0 _ _ l1 true _ ?side1 ?side2 ?side3 ?side4 A5.out).mono ?_); (case side1 => repeat (first | exact HR0.out | (with_reducible refine Kd.C_alloc ?_ _) | (with_reducible refine Kd.C_drewN ?_ _) | (with_reducible refine Kd.C_drew ?_))); (case side2 => exact HC0.out); (case side3 => repeat (first | exact HR1.out | (with_reducible refine Kd.C_alloc ?_ _) | (with_reducible refine Kd.C_drewN ?_ _) | (with_reducible refine Kd.C_drew ?_))); (case side4 => exact HC1.out); rintro e w7 ⟨rfl, hb⟩; refine ⟨_, rfl, ?_⟩; have n0_ := Aside0.mk (below_step (by repeat (first | (with_reducible first | exact HB.out | apply below_alloc | apply pw_below_drewN | apply below_drew1) | exact HB.out)) hb); clear HB; have HB := n0_; clear n0_; (try clear hb); (try clear hb2); (try clear hk); (try clear hi)))
  go_loopg [6] k (fun kq v6 w' => ∃ (x6_1 : Int), v6 = .int .i64 x6_1 ∧ Aside0 (dropperref07_Grows.l0 kq l1 x6_1 = some (r1, r2)) ∧ Aside0 (kq ≤ k) ∧ Aside0 (Below w.heap.size w w'))
  case atStart => exact ⟨(1), (by first | rfl | (simp; done) | (simp [*]; done)), H', ⟨Nat.le_refl _⟩, ⟨by repeat (first | (with_reducible first | exact HB.out | apply below_alloc | apply pw_below_drewN | apply below_drew1) | exact HB.out)⟩⟩
  case round =>
    clear H'
    try clear c1
    try clear p2
    try clear c4
    try clear c6
    obtain ⟨x6_1, rfl, HA, HK1, HB⟩ := hrel
    cases gk with
    | zero => exact absurd HA.out (by simp [dropperref07_Grows.l0])
    | succ k1 =>
      have H := HA.out
      clear HA
      simp only [dropperref07_Grows.l0] at H
      by_cases c8 : x6_1 < (l1.length : Int)
      rotate_left
      · rw [if_neg c8] at H
        have c8b0 : decide (x6_1 < (l1.length : Int)) = false := decide_eq_false c8
        clear c8
        simp only [Option.some.injEq, Prod.mk.injEq] at H
        obtain ⟨rfl, rfl⟩ := H
        go_wp2
        go_ret2
        exact ⟨by first | rfl | (simp [errW_none, errW_some] <;> rfl) | (simp [*, errW_none, errW_some] <;> rfl), by repeat (first | (with_reducible first | exact HB.out | apply below_alloc | apply pw_below_drewN | apply below_drew1) | exact HB.out)⟩
      rw [if_pos c8] at H
      have c8b0 : decide (x6_1 < (l1.length : Int)) = true := decide_eq_true c8
      clear c8
      by_cases c9 : 0 ≤ x6_1
      rotate_left
      · rw [if_neg c9] at H
        exact absurd H (by simp)
      rw [if_pos c9] at H
      have c9b0 : decide (0 ≤ x6_1) = true := decide_eq_true c9
      clear c9
      obtain ⟨ji10, hji10⟩ : ∃ j_ : Int, (wrap64 (x6_1 - 1)) = j_ := ⟨_, rfl⟩
      replace H : (if 0 ≤ (ji10) then (if (ji10) < (l1.length : Int) then ((dropperref07_Less.f ((rd_T35 l1 x6_1).f0) ((rd_T35 l1 x6_1).f1) ((rd_T35 l1 (ji10)).f0) ((rd_T35 l1 (ji10)).f1)).bind fun t105 => (if t105 = true then (some (false, 0)) else (dropperref07_Grows.l0 k1 l1 (wrap64 (x6_1 + 1))))) else (none)) else (none)) = some (r1, r2) := by first | (rw [hji10] at H; exact H) | (simp only [hji10] at H ⊢; exact H)
      have hji10w : (IntKind.i64.wrap (x6_1 - 1)) = ji10 := (i64_w _).trans hji10
      by_cases c11 : 0 ≤ (ji10)
      rotate_left
      · rw [if_neg c11] at H
        exact absurd H (by simp)
      rw [if_pos c11] at H
      have c11b0 : decide (0 ≤ (ji10)) = true := decide_eq_true c11
      clear c11
      by_cases c12 : (ji10) < (l1.length : Int)
      rotate_left
      · rw [if_neg c12] at H
        exact absurd H (by simp)
      rw [if_pos c12] at H
      have c12b0 : decide ((ji10) < (l1.length : Int)) = true := decide_eq_true c12
      clear c12
      replace H := Option.bind_eq_some_iff.mp H
      obtain ⟨t105, A130, H⟩ := H
      replace H : (if t105 = true then (some (false, 0)) else (dropperref07_Grows.l0 k1 l1 (wrap64 (x6_1 + 1)))) = some (r1, r2) := H
      have A13 := Aside0.mk A130
      clear A130
      by_cases c14 : t105 = true
      · subst c14
        have H1 : (some (false, 0)) = some (r1, r2) := by rw [if_pos rfl] at H; exact H
        clear H
        have H := H1
        clear H1
        simp only [Option.some.injEq, Prod.mk.injEq] at H
        obtain ⟨rfl, rfl⟩ := H
        try go_wp2
        have n0_ := Aside0.mk (below_drew1 HB.out)
        clear HB
        have HB := n0_
        clear n0_
        have p103 : 0 ≤ (x6_1 : Int) := of_decide_eq_true (by first | (with_reducible assumption) | assumption)
        have q103 : x6_1 < (l1.length : Int) := of_decide_eq_true (by first | (with_reducible assumption) | assumption)
        obtain ⟨ad103, e103, hx103_0, hx103_1⟩ := at_T35 HR1.out x6_1 p103 q103
        have hw103_1 := hx103_1
        have hw103_0 := hx103_0
        cases e103
        replace hx103_0 := (HB.out.cell (World.block_lt_of_cell? w _ hx103_0)).trans hx103_0
        replace hx103_1 := (HB.out.cell (World.block_lt_of_cell? w _ hx103_1)).trans hx103_1
        replace p103 := eq_true p103
        replace q103 := eq_true q103
        have p104 : 0 ≤ ((ji10) : Int) := of_decide_eq_true (by first | (with_reducible assumption) | assumption)
        have q104 : (ji10) < (l1.length : Int) := of_decide_eq_true (by first | (with_reducible assumption) | assumption)
        obtain ⟨ad104, e104, hx104_0, hx104_1⟩ := at_T35 HR1.out (ji10) p104 q104
        have hw104_1 := hx104_1
        have hw104_0 := hx104_0
        obtain rfl : ad103 = ad104 := (by injection e104)
        replace hx104_0 := (HB.out.cell (World.block_lt_of_cell? w _ hx104_0)).trans hx104_0
        replace hx104_1 := (HB.out.cell (World.block_lt_of_cell? w _ hx104_1)).trans hx104_1
        replace p104 := eq_true p104
        replace q104 := eq_true q104
        refine start_ (n := 10) (S := fun w' => w'.cell? (ad103.add ((x6_1).toNat * 2)) = some (.int .i64 ((rd_T35 l1 x6_1).f0)) ∧ w'.cell? ⟨(ad103.add ((x6_1).toNat * 2)).block, (ad103.add ((x6_1).toNat * 2)).off + 1, none⟩ = some (.int .i64 ((rd_T35 l1 x6_1).f1)) ∧ w'.cell? (ad103.add (((ji10)).toNat * 2)) = some (.int .i64 ((rd_T35 l1 (ji10)).f0)) ∧ w'.cell? ⟨(ad103.add (((ji10)).toNat * 2)).block, (ad103.add (((ji10)).toNat * 2)).off + 1, none⟩ = some (.int .i64 ((rd_T35 l1 (ji10)).f1))) (ds := []) (mkB 10 0) (by kernel_rfl) rfl rfl ⟨(pw_cell_below HB.out hw103_0), (pw_cell_below HB.out hw103_1), (pw_cell_below HB.out hw104_0), (pw_cell_below HB.out hw104_1)⟩ (fun hHeld => ?_); refine with_tabW dropperref07_Grows.tab8 dropperref07_Grows.bits8 (fun HT_ HW_ => ?_)
        generalize wr.drew = w15 at HB hx103_0 hx103_1 hx104_0 hx104_1 hHeld ⊢
        refine pr_ 0 (some 22) (mkB 10 1) HT_ ?_
        refine pr_ 1 (some 23) (mkB 10 3) HT_ ?_
        refine pr_ 2 (some 24) (mkB 10 7) HT_ ?_
        refine pr_ 4 (some 26) (mkB 10 23) HT_ ?_
        refine pr_ 5 (some 27) (mkB 10 55) HT_ ?_
        refine pr_ 6 (some 28) (mkB 10 119) HT_ ?_
        refine pr_ 7 (some 29) (mkB 10 247) HT_ ?_
        refine take_ (i := 3) (N := some 25) (v := ?_) (a' := ?_) (mkB 10 255) rfl rfl (take_ofW HT_.out HW_.out (by kernel_rfl)) (fun _ _ _ h => h) (Or.inl ⟨by rfl, ?_⟩) hHeld ?_ ?_
        rotate_left
        · rintro w' ⟨s0, s1, s2, s3⟩
          go_simp
          with_reducible rfl
        rotate_left
        · simp only [Act.put, List.setIfInBounds_toArray, List.set_cons_zero, List.set_cons_succ, i64_w, i32_w]
          rfl
        refine take_ (i := 8) (N := some 30) (v := ?_) (a' := ?_) (mkB 10 511) rfl rfl (take_ofW HT_.out HW_.out (by kernel_rfl)) (fun _ _ _ h => h) (Or.inl ⟨by rfl, ?_⟩) hHeld ?_ ?_
        rotate_left
        · rintro w' ⟨s0, s1, s2, s3⟩
          go_simp
          with_reducible rfl
        rotate_left
        · simp only [Act.put, List.setIfInBounds_toArray, List.set_cons_zero, List.set_cons_succ, i64_w, i32_w]
          rfl
        refine one_ (i := 9) (N := some 31) (mkB 10 1023) rfl rfl (one_of HT_.out (by kernel_rfl)) (by decide) (fun K hK => ?_)
        refine goes_ Try.func29 (by kernel_rfl) rfl #[.agg #[.int .i64 ((rd_T35 l1 x6_1).f0), .int .i64 ((rd_T35 l1 x6_1).f1)], .agg #[.int .i64 ((rd_T35 l1 (ji10)).f0), .int .i64 ((rd_T35 l1 (ji10)).f1)]] (by rfl) rfl rfl (by (try simp only [List.map_toArray, List.map_cons, List.map_nil]); first | done | (simp only [hji10]; rfl) | rfl | (simp only [List.length_drop, List.length_take]; rfl)) ?_
        with_reducible refine (dropperref07_Less.calls ((rd_T35 l1 x6_1).f0) ((rd_T35 l1 x6_1).f1) ((rd_T35 l1 (ji10)).f0) ((rd_T35 l1 (ji10)).f1) true _ A13.out).mono ?_
        rintro e w16 ⟨rfl, hb⟩
        refine ⟨_, rfl, ?_⟩
        have n0_ := Aside0.mk (below_step (by repeat (first | (with_reducible first | exact HB.out | apply below_alloc | apply pw_below_drewN | apply below_drew1) | exact HB.out)) hb)
        clear HB
        have HB := n0_
        clear n0_
        (try clear hb)
        (try clear hb2)
        (try clear hk)
        (try clear hi)
        refine hK.out _ _ ⟨(pw_cell_below HB.out hw103_0), (pw_cell_below HB.out hw103_1), (pw_cell_below HB.out hw104_0), (pw_cell_below HB.out hw104_1)⟩ (fun hHeld => ?_)
        clear hK K
        refine norm_ (a' := ?_) ?_ ?_
        rotate_left
        · show Act.put _ (some 31) _ = _
          simp only [Act.put, List.setIfInBounds_toArray, List.set_cons_zero, List.set_cons_succ, i64_w, i32_w]
          rfl
        refine done_ (done_of HT_.out (by kernel_rfl)) ?_
        try go_wp2
        go_ret2
        exact ⟨by first | rfl | (simp [errW_none, errW_some] <;> rfl) | (simp only [← hji10]; first | rfl | (simp [errW_none, errW_some] <;> rfl)) | (simp [*, errW_none, errW_some] <;> rfl), by repeat (first | (with_reducible first | exact HB.out | apply below_alloc | apply pw_below_drewN | apply below_drew1) | exact HB.out)⟩
      replace c14 := Bool.eq_false_iff.mpr c14
      subst c14
      have H1 : (dropperref07_Grows.l0 k1 l1 (wrap64 (x6_1 + 1))) = some (r1, r2) := by rw [if_neg (show ¬ (false = true) by decide)] at H; exact H
      clear H
      have H := H1
      clear H1
      have H' := Aside0.mk H
      clear H
      try go_wp2
      have n0_ := Aside0.mk (below_drew1 HB.out)
      clear HB
      have HB := n0_
      clear n0_
      have p103 : 0 ≤ (x6_1 : Int) := of_decide_eq_true (by first | (with_reducible assumption) | assumption)
      have q103 : x6_1 < (l1.length : Int) := of_decide_eq_true (by first | (with_reducible assumption) | assumption)
      obtain ⟨ad103, e103, hx103_0, hx103_1⟩ := at_T35 HR1.out x6_1 p103 q103
      have hw103_1 := hx103_1
      have hw103_0 := hx103_0
      cases e103
      replace hx103_0 := (HB.out.cell (World.block_lt_of_cell? w _ hx103_0)).trans hx103_0
      replace hx103_1 := (HB.out.cell (World.block_lt_of_cell? w _ hx103_1)).trans hx103_1
      replace p103 := eq_true p103
      replace q103 := eq_true q103
      have p104 : 0 ≤ ((ji10) : Int) := of_decide_eq_true (by first | (with_reducible assumption) | assumption)
      have q104 : (ji10) < (l1.length : Int) := of_decide_eq_true (by first | (with_reducible assumption) | assumption)
      obtain ⟨ad104, e104, hx104_0, hx104_1⟩ := at_T35 HR1.out (ji10) p104 q104
      have hw104_1 := hx104_1
      have hw104_0 := hx104_0
      obtain rfl : ad103 = ad104 := (by injection e104)
      replace hx104_0 := (HB.out.cell (World.block_lt_of_cell? w _ hx104_0)).trans hx104_0
      replace hx104_1 := (HB.out.cell (World.block_lt_of_cell? w _ hx104_1)).trans hx104_1
      replace p104 := eq_true p104
      replace q104 := eq_true q104
      refine start_ (n := 10) (S := fun w' => w'.cell? (ad103.add ((x6_1).toNat * 2)) = some (.int .i64 ((rd_T35 l1 x6_1).f0)) ∧ w'.cell? ⟨(ad103.add ((x6_1).toNat * 2)).block, (ad103.add ((x6_1).toNat * 2)).off + 1, none⟩ = some (.int .i64 ((rd_T35 l1 x6_1).f1)) ∧ w'.cell? (ad103.add (((ji10)).toNat * 2)) = some (.int .i64 ((rd_T35 l1 (ji10)).f0)) ∧ w'.cell? ⟨(ad103.add (((ji10)).toNat * 2)).block, (ad103.add (((ji10)).toNat * 2)).off + 1, none⟩ = some (.int .i64 ((rd_T35 l1 (ji10)).f1))) (ds := []) (mkB 10 0) (by kernel_rfl) rfl rfl ⟨(pw_cell_below HB.out hw103_0), (pw_cell_below HB.out hw103_1), (pw_cell_below HB.out hw104_0), (pw_cell_below HB.out hw104_1)⟩ (fun hHeld => ?_); refine with_tabW dropperref07_Grows.tab8 dropperref07_Grows.bits8 (fun HT_ HW_ => ?_)
      generalize wr.drew = w17 at HB hx103_0 hx103_1 hx104_0 hx104_1 hHeld ⊢
      refine pr_ 0 (some 22) (mkB 10 1) HT_ ?_
      refine pr_ 1 (some 23) (mkB 10 3) HT_ ?_
      refine pr_ 2 (some 24) (mkB 10 7) HT_ ?_
      refine pr_ 4 (some 26) (mkB 10 23) HT_ ?_
      refine pr_ 5 (some 27) (mkB 10 55) HT_ ?_
      refine pr_ 6 (some 28) (mkB 10 119) HT_ ?_
      refine pr_ 7 (some 29) (mkB 10 247) HT_ ?_
      refine take_ (i := 3) (N := some 25) (v := ?_) (a' := ?_) (mkB 10 255) rfl rfl (take_ofW HT_.out HW_.out (by kernel_rfl)) (fun _ _ _ h => h) (Or.inl ⟨by rfl, ?_⟩) hHeld ?_ ?_
      rotate_left
      · rintro w' ⟨s0, s1, s2, s3⟩
        go_simp
        with_reducible rfl
      rotate_left
      · simp only [Act.put, List.setIfInBounds_toArray, List.set_cons_zero, List.set_cons_succ, i64_w, i32_w]
        rfl
      refine take_ (i := 8) (N := some 30) (v := ?_) (a' := ?_) (mkB 10 511) rfl rfl (take_ofW HT_.out HW_.out (by kernel_rfl)) (fun _ _ _ h => h) (Or.inl ⟨by rfl, ?_⟩) hHeld ?_ ?_
      rotate_left
      · rintro w' ⟨s0, s1, s2, s3⟩
        go_simp
        with_reducible rfl
      rotate_left
      · simp only [Act.put, List.setIfInBounds_toArray, List.set_cons_zero, List.set_cons_succ, i64_w, i32_w]
        rfl
      refine one_ (i := 9) (N := some 31) (mkB 10 1023) rfl rfl (one_of HT_.out (by kernel_rfl)) (by decide) (fun K hK => ?_)
      refine goes_ Try.func29 (by kernel_rfl) rfl #[.agg #[.int .i64 ((rd_T35 l1 x6_1).f0), .int .i64 ((rd_T35 l1 x6_1).f1)], .agg #[.int .i64 ((rd_T35 l1 (ji10)).f0), .int .i64 ((rd_T35 l1 (ji10)).f1)]] (by rfl) rfl rfl (by (try simp only [List.map_toArray, List.map_cons, List.map_nil]); first | done | (simp only [hji10]; rfl) | rfl | (simp only [List.length_drop, List.length_take]; rfl)) ?_
      with_reducible refine (dropperref07_Less.calls ((rd_T35 l1 x6_1).f0) ((rd_T35 l1 x6_1).f1) ((rd_T35 l1 (ji10)).f0) ((rd_T35 l1 (ji10)).f1) false _ A13.out).mono ?_
      rintro e w18 ⟨rfl, hb⟩
      refine ⟨_, rfl, ?_⟩
      have n0_ := Aside0.mk (below_step (by repeat (first | (with_reducible first | exact HB.out | apply below_alloc | apply pw_below_drewN | apply below_drew1) | exact HB.out)) hb)
      clear HB
      have HB := n0_
      clear n0_
      (try clear hb)
      (try clear hb2)
      (try clear hk)
      (try clear hi)
      refine hK.out _ _ ⟨(pw_cell_below HB.out hw103_0), (pw_cell_below HB.out hw103_1), (pw_cell_below HB.out hw104_0), (pw_cell_below HB.out hw104_1)⟩ (fun hHeld => ?_)
      clear hK K
      refine norm_ (a' := ?_) ?_ ?_
      rotate_left
      · show Act.put _ (some 31) _ = _
        simp only [Act.put, List.setIfInBounds_toArray, List.set_cons_zero, List.set_cons_succ, i64_w, i32_w]
        rfl
      refine done_ (done_of HT_.out (by kernel_rfl)) ?_
      try go_wp2
      go_roundg k1
      case measure => have := HK1.out; omega
      case rel => exact ⟨(wrap64 (x6_1 + 1)), (by first | rfl | (simp; done) | (simp [*]; done)), H', ⟨by have := HK1.out; omega⟩, ⟨by repeat (first | (with_reducible first | exact HB.out | apply below_alloc | apply pw_below_drewN | apply below_drew1) | exact HB.out)⟩⟩
end Go.Proofs.Ytklapbgajghhcaa.G
end
