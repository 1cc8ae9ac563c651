-- Written by this session's driver (wip/tools/printmore.py) over the kit's print, with hand-written parts.
import Derived.Test.YthbpibdfookbmaaGBase
import Derived.Test.YthbpibdfookbmaaGF15
import Derived.Test.YthbpibdfookbmaaGF13
import Derived.Test.YthbpibdfookbmaaGF16
import Derived.Test.YthbpibdfookbmaaGF12
import Derived.Test.YthbpibdfookbmaaGF14
import Derived.Test.YthbpibdfookbmaaGF17
import Derived.Test.YthbpibdfookbmaaGF18
import Derived.Test.YthbpibdfookbmaaGF19
namespace Go.Proofs.Ythbpibdfookbmaa.G
open Go.RowKit Go.Proofs.YthbpibdfookbmaaW.PrintWords Go.Proofs.YthbpibdfookbmaaW.PrintLast Go.Proofs.YthbpibdfookbmaaW.PrintMore
attribute [local go_sem] max2_int min2_int max_two min_two max_three min_three max_four min_four   -- for this text's walks alone
set_option linter.unusedVariables false
set_option linter.unusedSimpArgs false

/-! ### dropperlaw08_IceHalves: function 3 -/
def dropperlaw08_IceHalves.j0 : Nat → List Int → Int → Bool → Option (Bool)
  | 0, _, _, _ => none
  | k + 1, x0, x1, x35 => if x35 = true then (some false) else ((ice_ByHalves.f k x0).bind fun bt111 => ((dropperref08_ByHalves.f k x0).bind fun bt115 => ((ice_Ease.f k x0 x1).bind fun bt119 => ((dropperref08_Ease.f k x0 x1).bind fun bt123 => (if bt111.2 = bt115.2 then ((dropperlaw08_SameInts.f k bt111.1 bt115.1).bind fun t127 => (if t127 = true then (if bt119.2 = bt123.2 then ((dropperlaw08_SameInts.f k bt119.1 bt123.1).bind fun t128 => (if t128 = true then ((dropperlaw08_Awake.f k).bind fun t129 => (some t129)) else (some false))) else (some false)) else (some false))) else (some false))))))
def dropperlaw08_IceHalves.f (k : Nat) (l0 : List Int) (a1 : Int) : Option (Bool) := if (l0.length : Int) > 20 then ((dropperlaw08_Awake.f k).bind fun t101 => (some t101)) else ((ice_Halves.f k l0).bind fun bt102 => ((dropperref08_Halves.f k l0).bind fun bt106 => (if bt102.2 = bt106.2 then ((dropperlaw08_SameInts.f k bt102.1 bt106.1).bind fun t110 => (dropperlaw08_IceHalves.j0 k l0 a1 (!t110))) else (dropperlaw08_IceHalves.j0 k l0 a1 true))))
theorem dropperlaw08_IceHalves.mono_l : ∀ k, (∀ y0 y1 y2, LeO (dropperlaw08_IceHalves.j0 k y0 y1 y2) (dropperlaw08_IceHalves.j0 (k + 1) y0 y1 y2))
  | 0 => fun _ _ _ r h => by simp [dropperlaw08_IceHalves.j0] at h
  | k + 1 => by
    have ih0 := dropperlaw08_IceHalves.mono_l k
    · intro y0 y1 y2
      unfold dropperlaw08_IceHalves.j0
      repeat' first
      | (with_reducible exact ih0 _ _ _)
      | (with_reducible exact dropperlaw08_Awake.mono _)
      | (with_reducible exact dropperlaw08_SameInts.mono _ _ _)
      | (with_reducible exact dropperref08_ByHalves.mono _ _)
      | (with_reducible exact dropperref08_Ease.mono _ _ _)
      | (with_reducible exact dropperref08_Halves.mono _ _)
      | (with_reducible exact ice_ByHalves.mono _ _)
      | (with_reducible exact ice_Ease.mono _ _ _)
      | (with_reducible exact ice_Halves.mono _ _)
      | (with_reducible exact LeO.refl _)
      | (with_reducible exact LeO.none _)
      | (with_reducible refine LeO.ite ?_ ?_)
      | (with_reducible refine LeO.bind ?_ (fun _ => ?_))
      | exact ih0 _ _ _
      | exact dropperlaw08_Awake.mono _
      | exact dropperlaw08_SameInts.mono _ _ _
      | exact dropperref08_ByHalves.mono _ _
      | exact dropperref08_Ease.mono _ _ _
      | exact dropperref08_Halves.mono _ _
      | exact ice_ByHalves.mono _ _
      | exact ice_Ease.mono _ _ _
      | exact ice_Halves.mono _ _
      | exact LeO.none _
      | refine LeO.ite ?_ ?_
      | refine LeO.bind ?_ (fun _ => ?_)
theorem dropperlaw08_IceHalves.mono : ∀ a0 a1 k, LeO (dropperlaw08_IceHalves.f k a0 a1) (dropperlaw08_IceHalves.f (k + 1) a0 a1) := by
  intro a0 a1 k
  have ih0 := dropperlaw08_IceHalves.mono_l k
  unfold dropperlaw08_IceHalves.f
  repeat' first
      | (with_reducible exact ih0 _ _ _)
      | (with_reducible exact dropperlaw08_Awake.mono _)
      | (with_reducible exact dropperlaw08_SameInts.mono _ _ _)
      | (with_reducible exact dropperref08_ByHalves.mono _ _)
      | (with_reducible exact dropperref08_Ease.mono _ _ _)
      | (with_reducible exact dropperref08_Halves.mono _ _)
      | (with_reducible exact ice_ByHalves.mono _ _)
      | (with_reducible exact ice_Ease.mono _ _ _)
      | (with_reducible exact ice_Halves.mono _ _)
      | (with_reducible exact LeO.refl _)
      | (with_reducible exact LeO.none _)
      | (with_reducible refine LeO.ite ?_ ?_)
      | (with_reducible refine LeO.bind ?_ (fun _ => ?_))
      | exact ih0 _ _ _
      | exact dropperlaw08_Awake.mono _
      | exact dropperlaw08_SameInts.mono _ _ _
      | exact dropperref08_ByHalves.mono _ _
      | exact dropperref08_Ease.mono _ _ _
      | exact dropperref08_Halves.mono _ _
      | exact ice_ByHalves.mono _ _
      | exact ice_Ease.mono _ _ _
      | exact ice_Halves.mono _ _
      | exact LeO.none _
      | refine LeO.ite ?_ ?_
      | refine LeO.bind ?_ (fun _ => ?_)
theorem dropperlaw08_IceHalves.j0_no (k : Nat) (y0_ : List Int) (y1_ : Int) : dropperlaw08_IceHalves.j0 k y0_ y1_ true ≠ some true := by
  cases k with
  | zero => simp [dropperlaw08_IceHalves.j0]
  | succ k => rw [dropperlaw08_IceHalves.j0]; simp
set_option maxHeartbeats 8000000 in
set_option maxRecDepth 100000 in
theorem dropperlaw08_IceHalves.calls (k : Nat) (A0 : Option Addr) (c0 : Nat) (l0 : List Int) (a1 : Int) (r : Bool) (w : World) (hr0 : Kd.C (Kd.int .i64) w A0 l0.length l0) (hc0 : l0.length ≤ c0) (h : dropperlaw08_IceHalves.f k l0 a1 = some r) (hT : r = true) :
    Calls Try.prog 3 #[.slice A0 l0.length c0, .int .i64 a1] w fun e w' => e = .returned (.bool r) ∧ Below w.heap.size w w' := by
  have HR0 := Aside0.mk hr0
  have HC0 := Aside0.mk hc0
  clear hr0 hc0
  have HB := Aside0.mk (Below.refl w.heap.size w)
  have H : (if (l0.length : Int) > 20 then ((dropperlaw08_Awake.f k).bind fun t101 => (some t101)) else ((ice_Halves.f k l0).bind fun bt102 => ((dropperref08_Halves.f k l0).bind fun bt106 => (if bt102.2 = bt106.2 then ((dropperlaw08_SameInts.f k bt102.1 bt106.1).bind fun t110 => (dropperlaw08_IceHalves.j0 k l0 a1 (!t110))) else (dropperlaw08_IceHalves.j0 k l0 a1 true))))) = some r := h
  clear h
  by_cases c3 : (l0.length : Int) > 20
  · rw [if_pos c3] at H
    have c3b0 : decide (20 < (l0.length : Int)) = true := decide_eq_true c3
    have c3b1 : decide (20 < l0.length) = true := decide_eq_true (by omega)
    clear c3
    replace H := Option.bind_eq_some_iff.mp H
    obtain ⟨t101, A40, H⟩ := H
    replace H : (some t101) = some r := H
    have A4 := Aside0.mk A40
    clear A40
    clear hT
    obtain rfl := Option.some.inj H
    go_enter Try.func3, Try.ntmps3
    go_wp2_with (first | ((with_reducible refine gate_callee (f := 12) rfl ?_); refine goesL_ (some 16) rfl rfl Try.func12 (by kernel_rfl) rfl #[] rfl (by (try simp only [List.map_toArray, List.map_cons, List.map_nil]); first | done | rfl | (simp only [List.length_drop, List.length_take]; rfl)) ?_; (with_reducible refine (dropperlaw08_Awake.calls k  t101 _ A4.out).mono ?_); rintro e w5 ⟨rfl, hb⟩; refine ⟨_, rfl, ?_⟩; have n0_ := Aside0.mk (below_step (by repeat (first | (with_reducible first | exact HB.out | apply below_alloc | apply pw_below_drewN | apply below_drew1) | exact HB.out)) hb); clear HB; have HB := n0_; clear n0_; (try clear hb); (try clear hb2); (try clear hk); (try clear hi)))
    go_ret
    exact ⟨by first | rfl | (simp [errW_none, errW_some] <;> rfl) | (simp [*, errW_none, errW_some] <;> rfl), by repeat (first | (with_reducible first | exact HB.out | apply below_alloc | apply pw_below_drewN | apply below_drew1) | exact HB.out)⟩
  rw [if_neg c3] at H
  have c3b0 : decide (20 < (l0.length : Int)) = false := decide_eq_false c3
  have c3b1 : decide (20 < l0.length) = false := decide_eq_false (by omega)
  clear c3
  replace H := Option.bind_eq_some_iff.mp H
  obtain ⟨⟨t102, t103⟩, A60, H⟩ := H
  replace H : ((dropperref08_Halves.f k l0).bind fun bt106 => (if t103 = bt106.2 then ((dropperlaw08_SameInts.f k t102 bt106.1).bind fun t110 => (dropperlaw08_IceHalves.j0 k l0 a1 (!t110))) else (dropperlaw08_IceHalves.j0 k l0 a1 true))) = some r := H
  have A6 := Aside0.mk A60
  clear A60
  replace H := Option.bind_eq_some_iff.mp H
  obtain ⟨⟨t106, t107⟩, A70, H⟩ := H
  replace H : (if t103 = t107 then ((dropperlaw08_SameInts.f k t102 t106).bind fun t110 => (dropperlaw08_IceHalves.j0 k l0 a1 (!t110))) else (dropperlaw08_IceHalves.j0 k l0 a1 true)) = some r := H
  have A7 := Aside0.mk A70
  clear A70
  have HC8 := Aside0.mk H
  clear H
  go_enter Try.func3, Try.ntmps3
  go_upto_region 5 with (first | ((with_reducible refine gate_callee (f := 13) rfl ?_); refine goesL_ (some 19) rfl rfl Try.func13 (by kernel_rfl) rfl #[.slice A0 l0.length c0] rfl (by (try simp only [List.map_toArray, List.map_cons, List.map_nil]); first | done | rfl | (simp only [List.length_drop, List.length_take]; rfl)) ?_; (with_reducible refine (ice_Halves.calls k _ _ l0 t102 t103 _ ?side1 ?side2 A6.out).mono ?_); (case side1 => repeat (first | exact HR0.out | (with_reducible refine Kd.C_alloc ?_ _) | (with_reducible refine Kd.C_drewN ?_ _) | (with_reducible refine Kd.C_drew ?_))); (case side2 => exact HC0.out); rintro e w9 ⟨v104, rfl, ho0, hb⟩; refine ⟨_, rfl, ?_⟩; have n0_ := Aside0.mk (Kd.R_lower ho0 (below_size (by repeat (first | (with_reducible first | exact HB.out | apply below_alloc | apply pw_below_drewN | apply below_drew1) | exact HB.out)))); have n1_ := Aside0.mk (below_step (by repeat (first | (with_reducible first | exact HB.out | apply below_alloc | apply pw_below_drewN | apply below_drew1) | exact HB.out)) hb); clear HB; have HO105 := n0_; have HB := n1_; clear n0_ n1_; (try clear hb); (try clear hb2); (try clear hk); (try clear hi); (try clear ho0)) | ((with_reducible refine gate_callee (f := 14) rfl ?_); refine goesL_ (some 24) rfl rfl Try.func14 (by kernel_rfl) rfl #[.slice A0 l0.length c0] rfl (by (try simp only [List.map_toArray, List.map_cons, List.map_nil]); first | done | rfl | (simp only [List.length_drop, List.length_take]; rfl)) ?_; (with_reducible refine (dropperref08_Halves.calls k _ _ l0 t106 t107 _ ?side1 ?side2 A7.out).mono ?_); (case side1 => repeat (first | exact (Kd.C_below HR0.out HB.out) | (with_reducible refine Kd.C_alloc ?_ _) | (with_reducible refine Kd.C_drewN ?_ _) | (with_reducible refine Kd.C_drew ?_))); (case side2 => exact HC0.out); rintro e w10 ⟨v108, rfl, ho0, hb⟩; refine ⟨_, rfl, ?_⟩; have n0_ := Aside0.mk (Kd.R_elder' (by (with_reducible repeat (first | apply Kd.R_alloc | apply Kd.R_drewN | apply Kd.R_drew)); exact HO105.out) (Kd.R_base ho0) hb); have n1_ := Aside0.mk (Kd.R_lower (Kd.R_new' ho0 (Kd.R_lt (by (with_reducible repeat (first | apply Kd.R_alloc | apply Kd.R_drewN | apply Kd.R_drew)); exact HO105.out))) (below_size (by repeat (first | (with_reducible first | exact HB.out | apply below_alloc | apply pw_below_drewN | apply below_drew1) | exact HB.out)))); have n2_ := Aside0.mk (below_step (by repeat (first | (with_reducible first | exact HB.out | apply below_alloc | apply pw_below_drewN | apply below_drew1) | exact HB.out)) hb); clear HO105; clear HB; have HO105 := n0_; have HO109 := n1_; have HB := n2_; clear n0_ n1_ n2_; (try clear hb); (try clear hb2); (try clear hk); (try clear hi); (try clear ho0)))
  (try simp only [Act.put, List.setIfInBounds_toArray, List.set_cons_zero, List.set_cons_succ])
  go_cut [35] (fun v35 wc => ∃ (kq : Nat) (x35_7 : Bool), v35 = .bool x35_7 ∧ Aside0 (dropperlaw08_IceHalves.j0 kq l0 a1 x35_7 = some r) ∧ Aside0 (kq ≤ k) ∧ Aside0 (Below w.heap.size w wc))
  case first =>
    have H := HC8.out
    clear HC8
    by_cases c11 : t103 = t107
    rotate_left
    · rw [if_neg c11] at H
      have c11b0 : (t103 == t107) = false := beq_eq_false_iff_ne.mpr c11
      have c11b1 : (t103 != t107) = true := bne_iff_ne.mpr c11
      (first | rw [c11b0] | (simp only [i64_w, i32_w]; rw [c11b0]) | skip)
      exact absurd (H.trans (congrArg some hT)) (dropperlaw08_IceHalves.j0_no _ _ _)
    rw [if_pos c11] at H
    have c11b0 : (t103 == t107) = true := beq_iff_eq.mpr c11
    have c11b1 : (t103 != t107) = false := bne_eq_false_iff_eq.mpr c11
    clear c11
    (first | rw [c11b0] | (simp only [i64_w, i32_w]; rw [c11b0]) | skip)
    replace H := Option.bind_eq_some_iff.mp H
    obtain ⟨t110, A120, H⟩ := H
    replace H : (dropperlaw08_IceHalves.j0 k l0 a1 (!t110)) = some r := H
    have A12 := Aside0.mk A120
    clear A120
    have H' := Aside0.mk H
    clear H
    obtain ⟨Ao13, co13, eo13⟩ := Kd.R_slice HO105.out
    subst eo13
    obtain ⟨Ao14, co14, eo14⟩ := Kd.R_slice HO109.out
    subst eo14
    go_wp2_with (first | (go_at_call 15; (with_reducible refine (dropperlaw08_SameInts.calls k _ _ t102 _ _ t106 t110 _ ?side1 ?side2 ?side3 ?side4 A12.out).mono ?_); (case side1 => repeat (first | exact (Kd.R_reads' HO105.out).2.2 | (with_reducible refine Kd.C_alloc ?_ _) | (with_reducible refine Kd.C_drewN ?_ _) | (with_reducible refine Kd.C_drew ?_))); (case side2 => exact (Kd.R_reads' HO105.out).2.1); (case side3 => repeat (first | exact (Kd.R_reads' HO109.out).2.2 | (with_reducible refine Kd.C_alloc ?_ _) | (with_reducible refine Kd.C_drewN ?_ _) | (with_reducible refine Kd.C_drew ?_))); (case side4 => exact (Kd.R_reads' HO109.out).2.1); rintro e w' ⟨rfl, ⟨nd, rfl⟩⟩))
    go_meet
    case rel => exact ⟨_, (!t110), (by first | rfl | (simp; done) | (simp [*]; done)), H', ⟨by first | omega | exact Nat.le_refl _⟩, ⟨by repeat (first | (with_reducible first | exact HB.out | apply below_alloc | apply pw_below_drewN | apply below_drew1) | exact HB.out)⟩⟩
  case rest =>
    clear HC8
    try clear c1
    try clear p2
    try clear c3
    try clear c3b0
    try clear c3b1
    try clear c11
    try clear c11b0
    try clear c11b1
    try clear c12
    try clear c13
    try clear c14
    obtain ⟨kq, x35_7, rfl, HA, HJ7, HB⟩ := hcut
    cases kq with
    | zero => exact absurd HA.out (by simp [dropperlaw08_IceHalves.j0])
    | succ kj7 =>
      have H := HA.out
      clear HA
      simp only [dropperlaw08_IceHalves.j0] at H
      by_cases c15 : x35_7 = true
      · subst c15
        have H1 : (some false) = some r := by rw [if_pos rfl] at H; exact H
        clear H
        have H := H1
        clear H1
        exact absurd (hT.symm.trans (Option.some.inj H).symm) (by decide)
      replace c15 := Bool.eq_false_iff.mpr c15
      subst c15
      have H1 : ((ice_ByHalves.f kj7 l0).bind fun bt111 => ((dropperref08_ByHalves.f kj7 l0).bind fun bt115 => ((ice_Ease.f kj7 l0 a1).bind fun bt119 => ((dropperref08_Ease.f kj7 l0 a1).bind fun bt123 => (if bt111.2 = bt115.2 then ((dropperlaw08_SameInts.f kj7 bt111.1 bt115.1).bind fun t127 => (if t127 = true then (if bt119.2 = bt123.2 then ((dropperlaw08_SameInts.f kj7 bt119.1 bt123.1).bind fun t128 => (if t128 = true then ((dropperlaw08_Awake.f kj7).bind fun t129 => (some t129)) else (some false))) else (some false)) else (some false))) else (some false)))))) = some r := by rw [if_neg (show ¬ (false = true) by decide)] at H; exact H
      clear H
      have H := H1
      clear H1
      replace H := Option.bind_eq_some_iff.mp H
      obtain ⟨⟨t111, t112⟩, A160, H⟩ := H
      replace H : ((dropperref08_ByHalves.f kj7 l0).bind fun bt115 => ((ice_Ease.f kj7 l0 a1).bind fun bt119 => ((dropperref08_Ease.f kj7 l0 a1).bind fun bt123 => (if t112 = bt115.2 then ((dropperlaw08_SameInts.f kj7 t111 bt115.1).bind fun t127 => (if t127 = true then (if bt119.2 = bt123.2 then ((dropperlaw08_SameInts.f kj7 bt119.1 bt123.1).bind fun t128 => (if t128 = true then ((dropperlaw08_Awake.f kj7).bind fun t129 => (some t129)) else (some false))) else (some false)) else (some false))) else (some false))))) = some r := H
      have A16 := Aside0.mk A160
      clear A160
      replace H := Option.bind_eq_some_iff.mp H
      obtain ⟨⟨t115, t116⟩, A170, H⟩ := H
      replace H : ((ice_Ease.f kj7 l0 a1).bind fun bt119 => ((dropperref08_Ease.f kj7 l0 a1).bind fun bt123 => (if t112 = t116 then ((dropperlaw08_SameInts.f kj7 t111 t115).bind fun t127 => (if t127 = true then (if bt119.2 = bt123.2 then ((dropperlaw08_SameInts.f kj7 bt119.1 bt123.1).bind fun t128 => (if t128 = true then ((dropperlaw08_Awake.f kj7).bind fun t129 => (some t129)) else (some false))) else (some false)) else (some false))) else (some false)))) = some r := H
      have A17 := Aside0.mk A170
      clear A170
      replace H := Option.bind_eq_some_iff.mp H
      obtain ⟨⟨t119, t120⟩, A180, H⟩ := H
      replace H : ((dropperref08_Ease.f kj7 l0 a1).bind fun bt123 => (if t112 = t116 then ((dropperlaw08_SameInts.f kj7 t111 t115).bind fun t127 => (if t127 = true then (if t120 = bt123.2 then ((dropperlaw08_SameInts.f kj7 t119 bt123.1).bind fun t128 => (if t128 = true then ((dropperlaw08_Awake.f kj7).bind fun t129 => (some t129)) else (some false))) else (some false)) else (some false))) else (some false))) = some r := H
      have A18 := Aside0.mk A180
      clear A180
      replace H := Option.bind_eq_some_iff.mp H
      obtain ⟨⟨t123, t124⟩, A190, H⟩ := H
      replace H : (if t112 = t116 then ((dropperlaw08_SameInts.f kj7 t111 t115).bind fun t127 => (if t127 = true then (if t120 = t124 then ((dropperlaw08_SameInts.f kj7 t119 t123).bind fun t128 => (if t128 = true then ((dropperlaw08_Awake.f kj7).bind fun t129 => (some t129)) else (some false))) else (some false)) else (some false))) else (some false)) = some r := H
      have A19 := Aside0.mk A190
      clear A190
      by_cases c20 : t112 = t116
      rotate_left
      · rw [if_neg c20] at H
        have c20b0 : (t112 == t116) = false := beq_eq_false_iff_ne.mpr c20
        have c20b1 : (t112 != t116) = true := bne_iff_ne.mpr c20
        exact absurd (hT.symm.trans (Option.some.inj H).symm) (by decide)

      rw [if_pos c20] at H
      have c20b0 : (t112 == t116) = true := beq_iff_eq.mpr c20
      have c20b1 : (t112 != t116) = false := bne_eq_false_iff_eq.mpr c20
      clear c20
      replace H := Option.bind_eq_some_iff.mp H
      obtain ⟨t127, A210, H⟩ := H
      replace H : (if t127 = true then (if t120 = t124 then ((dropperlaw08_SameInts.f kj7 t119 t123).bind fun t128 => (if t128 = true then ((dropperlaw08_Awake.f kj7).bind fun t129 => (some t129)) else (some false))) else (some false)) else (some false)) = some r := H
      have A21 := Aside0.mk A210
      clear A210
      by_cases c22 : t127 = true
      rotate_left
      · replace c22 := Bool.eq_false_iff.mpr c22
        subst c22
        have H1 : (some false) = some r := by rw [if_neg (show ¬ (false = true) by decide)] at H; exact H
        clear H
        have H := H1
        clear H1
        exact absurd (hT.symm.trans (Option.some.inj H).symm) (by decide)
      subst c22
      have H1 : (if t120 = t124 then ((dropperlaw08_SameInts.f kj7 t119 t123).bind fun t128 => (if t128 = true then ((dropperlaw08_Awake.f kj7).bind fun t129 => (some t129)) else (some false))) else (some false)) = some r := by rw [if_pos rfl] at H; exact H
      clear H
      have H := H1
      clear H1
      by_cases c23 : t120 = t124
      rotate_left
      · rw [if_neg c23] at H
        have c23b0 : (t120 == t124) = false := beq_eq_false_iff_ne.mpr c23
        have c23b1 : (t120 != t124) = true := bne_iff_ne.mpr c23
        exact absurd (hT.symm.trans (Option.some.inj H).symm) (by decide)
      rw [if_pos c23] at H
      have c23b0 : (t120 == t124) = true := beq_iff_eq.mpr c23
      have c23b1 : (t120 != t124) = false := bne_eq_false_iff_eq.mpr c23
      clear c23
      replace H := Option.bind_eq_some_iff.mp H
      obtain ⟨t128, A240, H⟩ := H
      replace H : (if t128 = true then ((dropperlaw08_Awake.f kj7).bind fun t129 => (some t129)) else (some false)) = some r := H
      have A24 := Aside0.mk A240
      clear A240
      by_cases c25 : t128 = true
      rotate_left
      · replace c25 := Bool.eq_false_iff.mpr c25
        subst c25
        have H1 : (some false) = some r := by rw [if_neg (show ¬ (false = true) by decide)] at H; exact H
        clear H
        have H := H1
        clear H1
        exact absurd (hT.symm.trans (Option.some.inj H).symm) (by decide)
      subst c25
      have H1 : ((dropperlaw08_Awake.f kj7).bind fun t129 => (some t129)) = some r := by rw [if_pos rfl] at H; exact H
      clear H
      have H := H1
      clear H1
      replace H := Option.bind_eq_some_iff.mp H
      obtain ⟨t129, A260, H⟩ := H
      replace H : (some t129) = some r := H
      have A26 := Aside0.mk A260
      clear A260
      clear hT
      obtain rfl := Option.some.inj H
      go_wp2_with (first | ((with_reducible refine gate_callee (f := 16) rfl ?_); refine goesL_ (some 38) rfl rfl Try.func16 (by kernel_rfl) rfl #[.slice A0 l0.length c0] rfl (by (try simp only [List.map_toArray, List.map_cons, List.map_nil]); first | done | rfl | (simp only [List.length_drop, List.length_take]; rfl)) ?_; (with_reducible refine (ice_ByHalves.calls kj7 _ _ l0 t111 t112 _ ?side1 ?side2 A16.out).mono ?_); (case side1 => repeat (first | exact (Kd.C_below HR0.out HB.out) | (with_reducible refine Kd.C_alloc ?_ _) | (with_reducible refine Kd.C_drewN ?_ _) | (with_reducible refine Kd.C_drew ?_))); (case side2 => exact HC0.out); rintro e w27 ⟨v113, rfl, ho0, hb⟩; refine ⟨_, rfl, ?_⟩; have n0_ := Aside0.mk (Kd.R_lower ho0 (below_size (by repeat (first | (with_reducible first | exact HB.out | apply below_alloc | apply pw_below_drewN | apply below_drew1) | exact HB.out)))); have n1_ := Aside0.mk (below_step (by repeat (first | (with_reducible first | exact HB.out | apply below_alloc | apply pw_below_drewN | apply below_drew1) | exact HB.out)) hb); clear HB; have HO114 := n0_; have HB := n1_; clear n0_ n1_; (try clear hb); (try clear hb2); (try clear hk); (try clear hi); (try clear ho0)) | ((with_reducible refine gate_callee (f := 17) rfl ?_); refine goesL_ (some 43) rfl rfl Try.func17 (by kernel_rfl) rfl #[.slice A0 l0.length c0] rfl (by (try simp only [List.map_toArray, List.map_cons, List.map_nil]); first | done | rfl | (simp only [List.length_drop, List.length_take]; rfl)) ?_; (with_reducible refine (dropperref08_ByHalves.calls kj7 _ _ l0 t115 t116 _ ?side1 ?side2 A17.out).mono ?_); (case side1 => repeat (first | exact (Kd.C_below HR0.out HB.out) | (with_reducible refine Kd.C_alloc ?_ _) | (with_reducible refine Kd.C_drewN ?_ _) | (with_reducible refine Kd.C_drew ?_))); (case side2 => exact HC0.out); rintro e w28 ⟨v117, rfl, ho0, hb⟩; refine ⟨_, rfl, ?_⟩; have n0_ := Aside0.mk (Kd.R_elder' (by (with_reducible repeat (first | apply Kd.R_alloc | apply Kd.R_drewN | apply Kd.R_drew)); exact HO114.out) (Kd.R_base ho0) hb); have n1_ := Aside0.mk (Kd.R_lower (Kd.R_new' ho0 (Kd.R_lt (by (with_reducible repeat (first | apply Kd.R_alloc | apply Kd.R_drewN | apply Kd.R_drew)); exact HO114.out))) (below_size (by repeat (first | (with_reducible first | exact HB.out | apply below_alloc | apply pw_below_drewN | apply below_drew1) | exact HB.out)))); have n2_ := Aside0.mk (below_step (by repeat (first | (with_reducible first | exact HB.out | apply below_alloc | apply pw_below_drewN | apply below_drew1) | exact HB.out)) hb); clear HO114; clear HB; have HO114 := n0_; have HO118 := n1_; have HB := n2_; clear n0_ n1_ n2_; (try clear hb); (try clear hb2); (try clear hk); (try clear hi); (try clear ho0)) | ((with_reducible refine gate_callee (f := 18) rfl ?_); refine goesL_ (some 49) rfl rfl Try.func18 (by kernel_rfl) rfl #[.slice A0 l0.length c0, .int .i64 a1] rfl (by (try simp only [List.map_toArray, List.map_cons, List.map_nil]); first | done | rfl | (simp only [List.length_drop, List.length_take]; rfl)) ?_; (with_reducible refine (ice_Ease.calls kj7 _ _ l0 a1 t119 t120 _ ?side1 ?side2 A18.out).mono ?_); (case side1 => repeat (first | exact (Kd.C_below HR0.out HB.out) | (with_reducible refine Kd.C_alloc ?_ _) | (with_reducible refine Kd.C_drewN ?_ _) | (with_reducible refine Kd.C_drew ?_))); (case side2 => exact HC0.out); rintro e w29 ⟨v121, rfl, ho0, hb⟩; refine ⟨_, rfl, ?_⟩; have n0_ := Aside0.mk (Kd.R_elder' (by (with_reducible repeat (first | apply Kd.R_alloc | apply Kd.R_drewN | apply Kd.R_drew)); exact HO114.out) (Kd.R_base ho0) hb); have n1_ := Aside0.mk (Kd.R_elder' (by (with_reducible repeat (first | apply Kd.R_alloc | apply Kd.R_drewN | apply Kd.R_drew)); exact HO118.out) (Kd.R_base ho0) hb); have n2_ := Aside0.mk (Kd.R_lower (Kd.R_new' (Kd.R_new' ho0 (Kd.R_lt (by (with_reducible repeat (first | apply Kd.R_alloc | apply Kd.R_drewN | apply Kd.R_drew)); exact HO114.out))) (Kd.R_lt (by (with_reducible repeat (first | apply Kd.R_alloc | apply Kd.R_drewN | apply Kd.R_drew)); exact HO118.out))) (below_size (by repeat (first | (with_reducible first | exact HB.out | apply below_alloc | apply pw_below_drewN | apply below_drew1) | exact HB.out)))); have n3_ := Aside0.mk (below_step (by repeat (first | (with_reducible first | exact HB.out | apply below_alloc | apply pw_below_drewN | apply below_drew1) | exact HB.out)) hb); clear HO114; clear HO118; clear HB; have HO114 := n0_; have HO118 := n1_; have HO122 := n2_; have HB := n3_; clear n0_ n1_ n2_ n3_; (try clear hb); (try clear hb2); (try clear hk); (try clear hi); (try clear ho0)) | ((with_reducible refine gate_callee (f := 19) rfl ?_); refine goesL_ (some 55) rfl rfl Try.func19 (by kernel_rfl) rfl #[.slice A0 l0.length c0, .int .i64 a1] rfl (by (try simp only [List.map_toArray, List.map_cons, List.map_nil]); first | done | rfl | (simp only [List.length_drop, List.length_take]; rfl)) ?_; (with_reducible refine (dropperref08_Ease.calls kj7 _ _ l0 a1 t123 t124 _ ?side1 ?side2 A19.out).mono ?_); (case side1 => repeat (first | exact (Kd.C_below HR0.out HB.out) | (with_reducible refine Kd.C_alloc ?_ _) | (with_reducible refine Kd.C_drewN ?_ _) | (with_reducible refine Kd.C_drew ?_))); (case side2 => exact HC0.out); rintro e w30 ⟨v125, rfl, ho0, hb⟩; refine ⟨_, rfl, ?_⟩; have n0_ := Aside0.mk (Kd.R_elder' (by (with_reducible repeat (first | apply Kd.R_alloc | apply Kd.R_drewN | apply Kd.R_drew)); exact HO114.out) (Kd.R_base ho0) hb); have n1_ := Aside0.mk (Kd.R_elder' (by (with_reducible repeat (first | apply Kd.R_alloc | apply Kd.R_drewN | apply Kd.R_drew)); exact HO118.out) (Kd.R_base ho0) hb); have n2_ := Aside0.mk (Kd.R_elder' (by (with_reducible repeat (first | apply Kd.R_alloc | apply Kd.R_drewN | apply Kd.R_drew)); exact HO122.out) (Kd.R_base ho0) hb); have n3_ := Aside0.mk (Kd.R_lower (Kd.R_new' (Kd.R_new' (Kd.R_new' ho0 (Kd.R_lt (by (with_reducible repeat (first | apply Kd.R_alloc | apply Kd.R_drewN | apply Kd.R_drew)); exact HO114.out))) (Kd.R_lt (by (with_reducible repeat (first | apply Kd.R_alloc | apply Kd.R_drewN | apply Kd.R_drew)); exact HO118.out))) (Kd.R_lt (by (with_reducible repeat (first | apply Kd.R_alloc | apply Kd.R_drewN | apply Kd.R_drew)); exact HO122.out))) (below_size (by repeat (first | (with_reducible first | exact HB.out | apply below_alloc | apply pw_below_drewN | apply below_drew1) | exact HB.out)))); have n4_ := Aside0.mk (below_step (by repeat (first | (with_reducible first | exact HB.out | apply below_alloc | apply pw_below_drewN | apply below_drew1) | exact HB.out)) hb); clear HO114; clear HO118; clear HO122; clear HB; have HO114 := n0_; have HO118 := n1_; have HO122 := n2_; have HO126 := n3_; have HB := n4_; clear n0_ n1_ n2_ n3_ n4_; (try clear hb); (try clear hb2); (try clear hk); (try clear hi); (try clear ho0); obtain ⟨Ao31, co31, eo31⟩ := Kd.R_slice HO114.out; subst eo31; obtain ⟨Ao32, co32, eo32⟩ := Kd.R_slice HO118.out; subst eo32) | (go_at_call 15; (with_reducible refine (dropperlaw08_SameInts.calls kj7 _ _ t111 _ _ t115 true _ ?side1 ?side2 ?side3 ?side4 A21.out).mono ?_); (case side1 => repeat (first | exact (Kd.R_reads' HO114.out).2.2 | (with_reducible refine Kd.C_alloc ?_ _) | (with_reducible refine Kd.C_drewN ?_ _) | (with_reducible refine Kd.C_drew ?_))); (case side2 => exact (Kd.R_reads' HO114.out).2.1); (case side3 => repeat (first | exact (Kd.R_reads' HO118.out).2.2 | (with_reducible refine Kd.C_alloc ?_ _) | (with_reducible refine Kd.C_drewN ?_ _) | (with_reducible refine Kd.C_drew ?_))); (case side4 => exact (Kd.R_reads' HO118.out).2.1); rintro e w' ⟨rfl, ⟨nd, rfl⟩⟩; obtain ⟨Ao33, co33, eo33⟩ := Kd.R_slice HO122.out; subst eo33; obtain ⟨Ao34, co34, eo34⟩ := Kd.R_slice HO126.out; subst eo34) | (go_at_call 15; (with_reducible refine (dropperlaw08_SameInts.calls kj7 _ _ t119 _ _ t123 true _ ?side1 ?side2 ?side3 ?side4 A24.out).mono ?_); (case side1 => repeat (first | exact (Kd.R_reads' HO122.out).2.2 | (with_reducible refine Kd.C_alloc ?_ _) | (with_reducible refine Kd.C_drewN ?_ _) | (with_reducible refine Kd.C_drew ?_))); (case side2 => exact (Kd.R_reads' HO122.out).2.1); (case side3 => repeat (first | exact (Kd.R_reads' HO126.out).2.2 | (with_reducible refine Kd.C_alloc ?_ _) | (with_reducible refine Kd.C_drewN ?_ _) | (with_reducible refine Kd.C_drew ?_))); (case side4 => exact (Kd.R_reads' HO126.out).2.1); rintro e w' ⟨rfl, ⟨nd, rfl⟩⟩) | (go_at_call 12; (with_reducible refine (dropperlaw08_Awake.calls kj7  t129 _ A26.out).mono ?_); rintro e w35 ⟨rfl, hb⟩; have n0_ := Aside0.mk (Kd.R_below (by (with_reducible repeat (first | apply Kd.R_alloc | apply Kd.R_drewN | apply Kd.R_drew)); exact HO114.out) hb); have n1_ := Aside0.mk (Kd.R_below (by (with_reducible repeat (first | apply Kd.R_alloc | apply Kd.R_drewN | apply Kd.R_drew)); exact HO118.out) hb); have n2_ := Aside0.mk (Kd.R_below (by (with_reducible repeat (first | apply Kd.R_alloc | apply Kd.R_drewN | apply Kd.R_drew)); exact HO122.out) hb); have n3_ := Aside0.mk (Kd.R_below (by (with_reducible repeat (first | apply Kd.R_alloc | apply Kd.R_drewN | apply Kd.R_drew)); exact HO126.out) hb); have n4_ := Aside0.mk (below_step (by repeat (first | (with_reducible first | exact HB.out | apply below_alloc | apply pw_below_drewN | apply below_drew1) | exact HB.out)) hb); clear HO114; clear HO118; clear HO122; clear HO126; clear HB; have HO114 := n0_; have HO118 := n1_; have HO122 := n2_; have HO126 := n3_; have HB := n4_; clear n0_ n1_ n2_ n3_ n4_; (try clear hb); (try clear hb2); (try clear hk); (try clear hi)))
      go_ret
      exact ⟨by first | rfl | (simp [errW_none, errW_some] <;> rfl) | (simp [*, errW_none, errW_some] <;> rfl), by repeat (first | (with_reducible first | exact HB.out | apply below_alloc | apply pw_below_drewN | apply below_drew1) | exact HB.out)⟩
end Go.Proofs.Ythbpibdfookbmaa.G
