/- Functions of the seat and plain laws about them: GF9. -/
import Derived.Test.YthbpibdfookbmaaGBase
import Derived.Test.YthbpibdfookbmaaZL1
import Derived.Test.YthbpibdfookbmaaZL3
import Derived.Test.YthbpibdfookbmaaZL4
import Derived.Test.YthbpibdfookbmaaZL6
import Derived.Test.YthbpibdfookbmaaZL9
section
namespace Go.Proofs.Ythbpibdfookbmaa.G
open Go.RowKit Go.Proofs.YthbpibdfookbmaaW.PrintWords Go.Proofs.YthbpibdfookbmaaW.PrintLast Go.Proofs.YthbpibdfookbmaaW.PrintMore
attribute [local go_sem] max2_int min2_int max_two min_two max_three min_three max_four min_four   -- for this text's walks alone
set_option linter.unusedVariables false
set_option linter.unusedSimpArgs false

/-! ### dropperlaw08_IceLasts: function 9 -/
def dropperlaw08_IceLasts.j0 : Nat → List Int → Int → Bool → Option (Bool)
  | 0, _, _, _ => none
  | k + 1, x0, x6, x31 => if x31 = true then (some false) else ((ice_Rota.f k x0).bind fun bt107 => (if x6 = 80 then (if (bt107.1.length : Int) = 0 then (if bt107.2 = 80 then ((dropperlaw08_Awake.f k).bind fun t111 => (some t111)) else (some false)) else (some false)) else (if x6 = 0 then (if (bt107.1.length : Int) = 0 then (if bt107.2 = 5 then ((dropperlaw08_Awake.f k).bind fun t112 => (some t112)) else (some false)) else (some false)) else ((dropperref08_IsRota.f k x0 bt107.1).bind fun bt113 => (if bt107.2 = 0 then (if bt113.2 = 0 then (if bt113.1 = true then ((dropperlaw08_Awake.f k).bind fun t115 => (some t115)) else (some false)) else (some false)) else (some false))))))
def dropperlaw08_IceLasts.f (k : Nat) (l0 : List Int) : Option (Bool) := (dropperlaw08_Many.f k l0 ([] : List (List Int))).bind fun t101 => (if t101 = true then ((dropperlaw08_Awake.f k).bind fun t102 => (some t102)) else ((ice_Lasts.f k l0).bind fun bt103 => ((dropperref08_Lasts.f k l0).bind fun bt105 => (if bt103.1 = bt105.1 then (dropperlaw08_IceLasts.j0 k l0 bt105.2 (bt103.2 != bt105.2)) else (dropperlaw08_IceLasts.j0 k l0 bt105.2 true)))))
theorem dropperlaw08_IceLasts.mono_l : ∀ k, (∀ y0 y1 y2, LeO (dropperlaw08_IceLasts.j0 k y0 y1 y2) (dropperlaw08_IceLasts.j0 (k + 1) y0 y1 y2))
  | 0 => fun _ _ _ r h => by simp [dropperlaw08_IceLasts.j0] at h
  | k + 1 => by
    have ih0 := dropperlaw08_IceLasts.mono_l k
    · intro y0 y1 y2
      unfold dropperlaw08_IceLasts.j0
      repeat' first
      | (with_reducible exact ih0 _ _ _)
      | (with_reducible exact dropperlaw08_Awake.mono _)
      | (with_reducible exact dropperlaw08_Many.mono _ _ _)
      | (with_reducible exact dropperref08_IsRota.mono _ _ _)
      | (with_reducible exact dropperref08_Lasts.mono _ _)
      | (with_reducible exact ice_Lasts.mono _ _)
      | (with_reducible exact ice_Rota.mono _ _)
      | (with_reducible exact LeO.refl _)
      | (with_reducible exact LeO.none _)
      | (with_reducible refine LeO.ite ?_ ?_)
      | (with_reducible refine LeO.bind ?_ (fun _ => ?_))
      | exact ih0 _ _ _
      | exact dropperlaw08_Awake.mono _
      | exact dropperlaw08_Many.mono _ _ _
      | exact dropperref08_IsRota.mono _ _ _
      | exact dropperref08_Lasts.mono _ _
      | exact ice_Lasts.mono _ _
      | exact ice_Rota.mono _ _
      | exact LeO.none _
      | refine LeO.ite ?_ ?_
      | refine LeO.bind ?_ (fun _ => ?_)
theorem dropperlaw08_IceLasts.mono : ∀ a0 k, LeO (dropperlaw08_IceLasts.f k a0) (dropperlaw08_IceLasts.f (k + 1) a0) := by
  intro a0 k
  have ih0 := dropperlaw08_IceLasts.mono_l k
  unfold dropperlaw08_IceLasts.f
  repeat' first
      | (with_reducible exact ih0 _ _ _)
      | (with_reducible exact dropperlaw08_Awake.mono _)
      | (with_reducible exact dropperlaw08_Many.mono _ _ _)
      | (with_reducible exact dropperref08_IsRota.mono _ _ _)
      | (with_reducible exact dropperref08_Lasts.mono _ _)
      | (with_reducible exact ice_Lasts.mono _ _)
      | (with_reducible exact ice_Rota.mono _ _)
      | (with_reducible exact LeO.refl _)
      | (with_reducible exact LeO.none _)
      | (with_reducible refine LeO.ite ?_ ?_)
      | (with_reducible refine LeO.bind ?_ (fun _ => ?_))
      | exact ih0 _ _ _
      | exact dropperlaw08_Awake.mono _
      | exact dropperlaw08_Many.mono _ _ _
      | exact dropperref08_IsRota.mono _ _ _
      | exact dropperref08_Lasts.mono _ _
      | exact ice_Lasts.mono _ _
      | exact ice_Rota.mono _ _
      | exact LeO.none _
      | refine LeO.ite ?_ ?_
      | refine LeO.bind ?_ (fun _ => ?_)
theorem dropperlaw08_IceLasts.j0_no (k : Nat) (y0_ : List Int) (y6_ : Int) : dropperlaw08_IceLasts.j0 k y0_ y6_ true ≠ some true := by
  cases k with
  | zero => simp [dropperlaw08_IceLasts.j0]
  | succ k => rw [dropperlaw08_IceLasts.j0]; simp
set_option maxHeartbeats 8000000 in
set_option maxRecDepth 100000 in
theorem dropperlaw08_IceLasts.calls (k : Nat) (A0 : Option Addr) (c0 : Nat) (l0 : List Int) (r : Bool) (w : World) (hr0 : Kd.C (Kd.int .i64) w A0 l0.length l0) (hc0 : l0.length ≤ c0) (h : dropperlaw08_IceLasts.f k l0 = some r) (hT : r = true) :
    Calls Try.prog 9 #[.slice A0 l0.length c0] w fun e w' => e = .returned (.bool r) ∧ Below w.heap.size w w' := by
  have HR0 := Aside0.mk hr0
  have HC0 := Aside0.mk hc0
  clear hr0 hc0
  have HB := Aside0.mk (Below.refl w.heap.size w)
  have H : ((dropperlaw08_Many.f k l0 ([] : List (List Int))).bind fun t101 => (if t101 = true then ((dropperlaw08_Awake.f k).bind fun t102 => (some t102)) else ((ice_Lasts.f k l0).bind fun bt103 => ((dropperref08_Lasts.f k l0).bind fun bt105 => (if bt103.1 = bt105.1 then (dropperlaw08_IceLasts.j0 k l0 bt105.2 (bt103.2 != bt105.2)) else (dropperlaw08_IceLasts.j0 k l0 bt105.2 true)))))) = some r := h
  clear h
  replace H := Option.bind_eq_some_iff.mp H
  obtain ⟨t101, A20, H⟩ := H
  replace H : (if t101 = true then ((dropperlaw08_Awake.f k).bind fun t102 => (some t102)) else ((ice_Lasts.f k l0).bind fun bt103 => ((dropperref08_Lasts.f k l0).bind fun bt105 => (if bt103.1 = bt105.1 then (dropperlaw08_IceLasts.j0 k l0 bt105.2 (bt103.2 != bt105.2)) else (dropperlaw08_IceLasts.j0 k l0 bt105.2 true))))) = some r := H
  have A2 := Aside0.mk A20
  clear A20
  by_cases c3 : t101 = true
  · subst c3
    have H1 : ((dropperlaw08_Awake.f k).bind fun t102 => (some t102)) = some r := by rw [if_pos rfl] at H; exact H
    clear H
    have H := H1
    clear H1
    replace H := Option.bind_eq_some_iff.mp H
    obtain ⟨t102, A40, H⟩ := H
    replace H : (some t102) = some r := H
    have A4 := Aside0.mk A40
    clear A40
    clear hT
    obtain rfl := Option.some.inj H
    go_enter Try.func9, Try.ntmps9
    go_wp2_with (first | ((with_reducible refine gate_callee (f := 20) rfl ?_); refine goesL_ (some 12) rfl rfl Try.func20 (by kernel_rfl) rfl #[.slice A0 l0.length c0, .slice none 0 0] rfl (by (try simp only [List.map_toArray, List.map_cons, List.map_nil]); first | done | rfl | (simp only [List.length_drop, List.length_take]; rfl)) ?_; (refine (dropperlaw08_Many.calls k _ _ l0 _ _ ([] : List (List Int)) true _ ?side1 ?side2 ?side3 ?side4 A2.out).mono ?_); (case side1 => repeat (first | exact HR0.out | (with_reducible refine Kd.C_alloc ?_ _) | (with_reducible refine Kd.C_drewN ?_ _) | (with_reducible refine Kd.C_drew ?_))); (case side2 => exact HC0.out); (case side3 => exact Kd.C_nil _ _); (case side4 => exact Nat.le_refl _); rintro e w' ⟨rfl, ⟨nd, rfl⟩⟩; refine ⟨_, rfl, ?_⟩) | ((with_reducible refine gate_callee (f := 12) rfl ?_); refine goesL_ (some 13) rfl rfl Try.func12 (by kernel_rfl) rfl #[] rfl (by (try simp only [List.map_toArray, List.map_cons, List.map_nil]); first | done | rfl | (simp only [List.length_drop, List.length_take]; rfl)) ?_; (with_reducible refine (dropperlaw08_Awake.calls k  t102 _ A4.out).mono ?_); rintro e w5 ⟨rfl, hb⟩; refine ⟨_, rfl, ?_⟩; have n0_ := Aside0.mk (below_step (by repeat (first | (with_reducible first | exact HB.out | apply below_alloc | apply pw_below_drewN | apply below_drew1) | exact HB.out)) hb); clear HB; have HB := n0_; clear n0_; (try clear hb); (try clear hb2); (try clear hk); (try clear hi)))
    go_ret
    exact ⟨by first | rfl | (simp [errW_none, errW_some] <;> rfl) | (simp [*, errW_none, errW_some] <;> rfl), by repeat (first | (with_reducible first | exact HB.out | apply below_alloc | apply pw_below_drewN | apply below_drew1) | exact HB.out)⟩
  replace c3 := Bool.eq_false_iff.mpr c3
  subst c3
  have H1 : ((ice_Lasts.f k l0).bind fun bt103 => ((dropperref08_Lasts.f k l0).bind fun bt105 => (if bt103.1 = bt105.1 then (dropperlaw08_IceLasts.j0 k l0 bt105.2 (bt103.2 != bt105.2)) else (dropperlaw08_IceLasts.j0 k l0 bt105.2 true)))) = some r := by rw [if_neg (show ¬ (false = true) by decide)] at H; exact H
  clear H
  have H := H1
  clear H1
  replace H := Option.bind_eq_some_iff.mp H
  obtain ⟨⟨t103, t104⟩, A60, H⟩ := H
  replace H : ((dropperref08_Lasts.f k l0).bind fun bt105 => (if t103 = bt105.1 then (dropperlaw08_IceLasts.j0 k l0 bt105.2 (t104 != bt105.2)) else (dropperlaw08_IceLasts.j0 k l0 bt105.2 true))) = some r := H
  have A6 := Aside0.mk A60
  clear A60
  replace H := Option.bind_eq_some_iff.mp H
  obtain ⟨⟨t105, t106⟩, A70, H⟩ := H
  replace H : (if t103 = t105 then (dropperlaw08_IceLasts.j0 k l0 t106 (t104 != t106)) else (dropperlaw08_IceLasts.j0 k l0 t106 true)) = some r := H
  have A7 := Aside0.mk A70
  clear A70
  have HC8 := Aside0.mk H
  clear H
  go_enter Try.func9, Try.ntmps9
  go_upto_region 5 with (first | ((with_reducible refine gate_callee (f := 20) rfl ?_); refine goesL_ (some 12) rfl rfl Try.func20 (by kernel_rfl) rfl #[.slice A0 l0.length c0, .slice none 0 0] rfl (by (try simp only [List.map_toArray, List.map_cons, List.map_nil]); first | done | rfl | (simp only [List.length_drop, List.length_take]; rfl)) ?_; (refine (dropperlaw08_Many.calls k _ _ l0 _ _ ([] : List (List Int)) false _ ?side1 ?side2 ?side3 ?side4 A2.out).mono ?_); (case side1 => repeat (first | exact HR0.out | (with_reducible refine Kd.C_alloc ?_ _) | (with_reducible refine Kd.C_drewN ?_ _) | (with_reducible refine Kd.C_drew ?_))); (case side2 => exact HC0.out); (case side3 => exact Kd.C_nil _ _); (case side4 => exact Nat.le_refl _); rintro e w' ⟨rfl, ⟨nd, rfl⟩⟩; refine ⟨_, rfl, ?_⟩) | ((with_reducible refine gate_callee (f := 43) rfl ?_); refine goesL_ (some 16) rfl rfl Try.func43 (by kernel_rfl) rfl #[.slice A0 l0.length c0] rfl (by (try simp only [List.map_toArray, List.map_cons, List.map_nil]); first | done | rfl | (simp only [List.length_drop, List.length_take]; rfl)) ?_; (with_reducible refine (ice_Lasts.calls k _ _ l0 t103 t104 _ ?side1 ?side2 A6.out).mono ?_); (case side1 => repeat (first | exact HR0.out | (with_reducible refine Kd.C_alloc ?_ _) | (with_reducible refine Kd.C_drewN ?_ _) | (with_reducible refine Kd.C_drew ?_))); (case side2 => exact HC0.out); rintro e w9 ⟨rfl, hb⟩; refine ⟨_, rfl, ?_⟩; have n0_ := Aside0.mk (below_step (by repeat (first | (with_reducible first | exact HB.out | apply below_alloc | apply pw_below_drewN | apply below_drew1) | exact HB.out)) hb); clear HB; have HB := n0_; clear n0_; (try clear hb); (try clear hb2); (try clear hk); (try clear hi)) | ((with_reducible refine gate_callee (f := 44) rfl ?_); refine goesL_ (some 21) rfl rfl Try.func44 (by kernel_rfl) rfl #[.slice A0 l0.length c0] rfl (by (try simp only [List.map_toArray, List.map_cons, List.map_nil]); first | done | rfl | (simp only [List.length_drop, List.length_take]; rfl)) ?_; (with_reducible refine (dropperref08_Lasts.calls k _ _ l0 t105 t106 _ ?side1 ?side2 A7.out).mono ?_); (case side1 => repeat (first | exact (Kd.C_below HR0.out HB.out) | (with_reducible refine Kd.C_alloc ?_ _) | (with_reducible refine Kd.C_drewN ?_ _) | (with_reducible refine Kd.C_drew ?_))); (case side2 => exact HC0.out); rintro e w10 ⟨rfl, hb⟩; refine ⟨_, rfl, ?_⟩; have n0_ := Aside0.mk (below_step (by repeat (first | (with_reducible first | exact HB.out | apply below_alloc | apply pw_below_drewN | apply below_drew1) | exact HB.out)) hb); clear HB; have HB := n0_; clear n0_; (try clear hb); (try clear hb2); (try clear hk); (try clear hi)))
  (try simp only [Act.put, List.setIfInBounds_toArray, List.set_cons_zero, List.set_cons_succ])
  go_cut [31] (fun v31 wc => ∃ (kq : Nat) (x31_7 : Bool), v31 = .bool x31_7 ∧ Aside0 (dropperlaw08_IceLasts.j0 kq l0 t106 x31_7 = some r) ∧ Aside0 (kq ≤ k) ∧ Aside0 (Below w.heap.size w wc))
  case first =>
    have H := HC8.out
    clear HC8
    by_cases c11 : t103 = t105
    rotate_left
    · rw [if_neg c11] at H
      have c11b0 : (t103 == t105) = false := beq_eq_false_iff_ne.mpr c11
      have c11b1 : (t103 != t105) = true := bne_iff_ne.mpr c11
      (first | rw [c11b0] | (simp only [i64_w, i32_w]; rw [c11b0]) | skip)
      exact absurd (H.trans (congrArg some hT)) (dropperlaw08_IceLasts.j0_no _ _ _)
    rw [if_pos c11] at H
    have c11b0 : (t103 == t105) = true := beq_iff_eq.mpr c11
    have c11b1 : (t103 != t105) = false := bne_eq_false_iff_eq.mpr c11
    clear c11
    (first | rw [c11b0] | (simp only [i64_w, i32_w]; rw [c11b0]) | skip)
    have H' := Aside0.mk H
    clear H
    go_wp2
    go_meet
    case rel => exact ⟨_, ((t104 != t106)), (by first | rfl | (simp; done) | (simp [*]; done)), H', ⟨by first | omega | exact Nat.le_refl _⟩, ⟨by repeat (first | (with_reducible first | exact HB.out | apply below_alloc | apply pw_below_drewN | apply below_drew1) | exact HB.out)⟩⟩
  case rest =>
    clear HC8
    try clear c1
    try clear c2
    try clear p2
    try clear c3
    try clear c4
    try clear c9
    try clear c11
    try clear c11b0
    try clear c11b1
    obtain ⟨kq, x31_7, rfl, HA, HJ7, HB⟩ := hcut
    cases kq with
    | zero => exact absurd HA.out (by simp [dropperlaw08_IceLasts.j0])
    | succ kj7 =>
      have H := HA.out
      clear HA
      simp only [dropperlaw08_IceLasts.j0] at H
      by_cases c12 : x31_7 = true
      · subst c12
        have H1 : (some false) = some r := by rw [if_pos rfl] at H; exact H
        clear H
        have H := H1
        clear H1
        exact absurd (hT.symm.trans (Option.some.inj H).symm) (by decide)
      replace c12 := Bool.eq_false_iff.mpr c12
      subst c12
      have H1 : ((ice_Rota.f kj7 l0).bind fun bt107 => (if t106 = 80 then (if (bt107.1.length : Int) = 0 then (if bt107.2 = 80 then ((dropperlaw08_Awake.f kj7).bind fun t111 => (some t111)) else (some false)) else (some false)) else (if t106 = 0 then (if (bt107.1.length : Int) = 0 then (if bt107.2 = 5 then ((dropperlaw08_Awake.f kj7).bind fun t112 => (some t112)) else (some false)) else (some false)) else ((dropperref08_IsRota.f kj7 l0 bt107.1).bind fun bt113 => (if bt107.2 = 0 then (if bt113.2 = 0 then (if bt113.1 = true then ((dropperlaw08_Awake.f kj7).bind fun t115 => (some t115)) else (some false)) else (some false)) else (some false)))))) = some r := by rw [if_neg (show ¬ (false = true) by decide)] at H; exact H
      clear H
      have H := H1
      clear H1
      replace H := Option.bind_eq_some_iff.mp H
      obtain ⟨⟨t107, t108⟩, A130, H⟩ := H
      replace H : (if t106 = 80 then (if (t107.length : Int) = 0 then (if t108 = 80 then ((dropperlaw08_Awake.f kj7).bind fun t111 => (some t111)) else (some false)) else (some false)) else (if t106 = 0 then (if (t107.length : Int) = 0 then (if t108 = 5 then ((dropperlaw08_Awake.f kj7).bind fun t112 => (some t112)) else (some false)) else (some false)) else ((dropperref08_IsRota.f kj7 l0 t107).bind fun bt113 => (if t108 = 0 then (if bt113.2 = 0 then (if bt113.1 = true then ((dropperlaw08_Awake.f kj7).bind fun t115 => (some t115)) else (some false)) else (some false)) else (some false))))) = some r := H
      have A13 := Aside0.mk A130
      clear A130
      by_cases c14 : t106 = 80
      · rw [if_pos c14] at H
        have c14b0 : (t106 == 80) = true := beq_iff_eq.mpr c14
        have c14b1 : (t106 != 80) = false := bne_eq_false_iff_eq.mpr c14
        clear c14
        by_cases c15 : (t107.length : Int) = 0
        rotate_left
        · rw [if_neg c15] at H
          have c15b0 : ((t107.length : Int) == 0) = false := beq_eq_false_iff_ne.mpr c15
          have c15b1 : ((t107.length : Int) != 0) = true := bne_iff_ne.mpr c15
          have c15b2 : ¬ (t107 = []) := fun h_ => c15 (by rw [h_]; rfl)
          exact absurd (hT.symm.trans (Option.some.inj H).symm) (by decide)
        rw [if_pos c15] at H
        have c15b0 : ((t107.length : Int) == 0) = true := beq_iff_eq.mpr c15
        have c15b1 : ((t107.length : Int) != 0) = false := bne_eq_false_iff_eq.mpr c15
        clear c15
        by_cases c16 : t108 = 80
        rotate_left
        · rw [if_neg c16] at H
          have c16b0 : (t108 == 80) = false := beq_eq_false_iff_ne.mpr c16
          have c16b1 : (t108 != 80) = true := bne_iff_ne.mpr c16
          exact absurd (hT.symm.trans (Option.some.inj H).symm) (by decide)
        rw [if_pos c16] at H
        have c16b0 : (t108 == 80) = true := beq_iff_eq.mpr c16
        have c16b1 : (t108 != 80) = false := bne_eq_false_iff_eq.mpr c16
        clear c16
        replace H := Option.bind_eq_some_iff.mp H
        obtain ⟨t111, A170, H⟩ := H
        replace H : (some t111) = some r := H
        have A17 := Aside0.mk A170
        clear A170
        clear hT
        obtain rfl := Option.some.inj H
        go_wp2_with (first | ((with_reducible refine gate_callee (f := 45) rfl ?_); refine goesL_ (some 34) rfl rfl Try.func45 (by kernel_rfl) rfl #[.slice A0 l0.length c0] rfl (by (try simp only [List.map_toArray, List.map_cons, List.map_nil]); first | done | rfl | (simp only [List.length_drop, List.length_take]; rfl)) ?_; (with_reducible refine (ice_Rota.calls kj7 _ _ l0 t107 t108 _ ?side1 ?side2 A13.out).mono ?_); (case side1 => repeat (first | exact (Kd.C_below HR0.out HB.out) | (with_reducible refine Kd.C_alloc ?_ _) | (with_reducible refine Kd.C_drewN ?_ _) | (with_reducible refine Kd.C_drew ?_))); (case side2 => exact HC0.out); rintro e w18 ⟨v109, rfl, ho0, hb⟩; refine ⟨_, rfl, ?_⟩; have n0_ := Aside0.mk (Kd.Q_lower ho0 (below_size (by repeat (first | (with_reducible first | exact HB.out | apply below_alloc | apply pw_below_drewN | apply below_drew1) | exact HB.out)))); have n1_ := Aside0.mk (below_step (by repeat (first | (with_reducible first | exact HB.out | apply below_alloc | apply pw_below_drewN | apply below_drew1) | exact HB.out)) hb); clear HB; have HO110 := n0_; have HB := n1_; clear n0_ n1_; (try clear hb); (try clear hb2); (try clear hk); (try clear hi); (try clear ho0); obtain ⟨Ao19, co19, eo19, _⟩ := Kd.Q_slice HO110.out; subst eo19) | (go_at_call 12; (with_reducible refine (dropperlaw08_Awake.calls kj7  t111 _ A17.out).mono ?_); rintro e w20 ⟨rfl, hb⟩; have n0_ := Aside0.mk (Kd.Q_below (by (with_reducible repeat (first | apply Kd.Q_alloc | apply Kd.Q_drewN | apply Kd.Q_drew)); exact HO110.out) hb); have n1_ := Aside0.mk (below_step (by repeat (first | (with_reducible first | exact HB.out | apply below_alloc | apply pw_below_drewN | apply below_drew1) | exact HB.out)) hb); clear HO110; clear HB; have HO110 := n0_; have HB := n1_; clear n0_ n1_; (try clear hb); (try clear hb2); (try clear hk); (try clear hi)))
        go_ret
        exact ⟨by first | rfl | (simp [errW_none, errW_some] <;> rfl) | (simp [*, errW_none, errW_some] <;> rfl), by repeat (first | (with_reducible first | exact HB.out | apply below_alloc | apply pw_below_drewN | apply below_drew1) | exact HB.out)⟩
      rw [if_neg c14] at H
      have c14b0 : (t106 == 80) = false := beq_eq_false_iff_ne.mpr c14
      have c14b1 : (t106 != 80) = true := bne_iff_ne.mpr c14
      by_cases c21 : t106 = 0
      · rw [if_pos c21] at H
        have c21b0 : (t106 == 0) = true := beq_iff_eq.mpr c21
        have c21b1 : (t106 != 0) = false := bne_eq_false_iff_eq.mpr c21
        clear c21
        by_cases c22 : (t107.length : Int) = 0
        rotate_left
        · rw [if_neg c22] at H
          have c22b0 : ((t107.length : Int) == 0) = false := beq_eq_false_iff_ne.mpr c22
          have c22b1 : ((t107.length : Int) != 0) = true := bne_iff_ne.mpr c22
          have c22b2 : ¬ (t107 = []) := fun h_ => c22 (by rw [h_]; rfl)
          exact absurd (hT.symm.trans (Option.some.inj H).symm) (by decide)
        rw [if_pos c22] at H
        have c22b0 : ((t107.length : Int) == 0) = true := beq_iff_eq.mpr c22
        have c22b1 : ((t107.length : Int) != 0) = false := bne_eq_false_iff_eq.mpr c22
        clear c22
        by_cases c23 : t108 = 5
        rotate_left
        · rw [if_neg c23] at H
          have c23b0 : (t108 == 5) = false := beq_eq_false_iff_ne.mpr c23
          have c23b1 : (t108 != 5) = true := bne_iff_ne.mpr c23
          exact absurd (hT.symm.trans (Option.some.inj H).symm) (by decide)
        rw [if_pos c23] at H
        have c23b0 : (t108 == 5) = true := beq_iff_eq.mpr c23
        have c23b1 : (t108 != 5) = false := bne_eq_false_iff_eq.mpr c23
        clear c23
        replace H := Option.bind_eq_some_iff.mp H
        obtain ⟨t112, A240, H⟩ := H
        replace H : (some t112) = some r := H
        have A24 := Aside0.mk A240
        clear A240
        clear hT
        obtain rfl := Option.some.inj H
        go_wp2_with (first | ((with_reducible refine gate_callee (f := 45) rfl ?_); refine goesL_ (some 34) rfl rfl Try.func45 (by kernel_rfl) rfl #[.slice A0 l0.length c0] rfl (by (try simp only [List.map_toArray, List.map_cons, List.map_nil]); first | done | rfl | (simp only [List.length_drop, List.length_take]; rfl)) ?_; (with_reducible refine (ice_Rota.calls kj7 _ _ l0 t107 t108 _ ?side1 ?side2 A13.out).mono ?_); (case side1 => repeat (first | exact (Kd.C_below HR0.out HB.out) | (with_reducible refine Kd.C_alloc ?_ _) | (with_reducible refine Kd.C_drewN ?_ _) | (with_reducible refine Kd.C_drew ?_))); (case side2 => exact HC0.out); rintro e w25 ⟨v109, rfl, ho0, hb⟩; refine ⟨_, rfl, ?_⟩; have n0_ := Aside0.mk (Kd.Q_lower ho0 (below_size (by repeat (first | (with_reducible first | exact HB.out | apply below_alloc | apply pw_below_drewN | apply below_drew1) | exact HB.out)))); have n1_ := Aside0.mk (below_step (by repeat (first | (with_reducible first | exact HB.out | apply below_alloc | apply pw_below_drewN | apply below_drew1) | exact HB.out)) hb); clear HB; have HO110 := n0_; have HB := n1_; clear n0_ n1_; (try clear hb); (try clear hb2); (try clear hk); (try clear hi); (try clear ho0); obtain ⟨Ao26, co26, eo26, _⟩ := Kd.Q_slice HO110.out; subst eo26) | (go_at_call 12; (with_reducible refine (dropperlaw08_Awake.calls kj7  t112 _ A24.out).mono ?_); rintro e w27 ⟨rfl, hb⟩; have n0_ := Aside0.mk (Kd.Q_below (by (with_reducible repeat (first | apply Kd.Q_alloc | apply Kd.Q_drewN | apply Kd.Q_drew)); exact HO110.out) hb); have n1_ := Aside0.mk (below_step (by repeat (first | (with_reducible first | exact HB.out | apply below_alloc | apply pw_below_drewN | apply below_drew1) | exact HB.out)) hb); clear HO110; clear HB; have HO110 := n0_; have HB := n1_; clear n0_ n1_; (try clear hb); (try clear hb2); (try clear hk); (try clear hi)))
        go_ret
        exact ⟨by first | rfl | (simp [errW_none, errW_some] <;> rfl) | (simp [*, errW_none, errW_some] <;> rfl), by repeat (first | (with_reducible first | exact HB.out | apply below_alloc | apply pw_below_drewN | apply below_drew1) | exact HB.out)⟩
      rw [if_neg c21] at H
      have c21b0 : (t106 == 0) = false := beq_eq_false_iff_ne.mpr c21
      have c21b1 : (t106 != 0) = true := bne_iff_ne.mpr c21
      replace H := Option.bind_eq_some_iff.mp H
      obtain ⟨⟨t113, t114⟩, A280, H⟩ := H
      replace H : (if t108 = 0 then (if t114 = 0 then (if t113 = true then ((dropperlaw08_Awake.f kj7).bind fun t115 => (some t115)) else (some false)) else (some false)) else (some false)) = some r := H
      have A28 := Aside0.mk A280
      clear A280
      by_cases c29 : t108 = 0
      rotate_left
      · rw [if_neg c29] at H
        have c29b0 : (t108 == 0) = false := beq_eq_false_iff_ne.mpr c29
        have c29b1 : (t108 != 0) = true := bne_iff_ne.mpr c29
        exact absurd (hT.symm.trans (Option.some.inj H).symm) (by decide)

      rw [if_pos c29] at H
      have c29b0 : (t108 == 0) = true := beq_iff_eq.mpr c29
      have c29b1 : (t108 != 0) = false := bne_eq_false_iff_eq.mpr c29
      clear c29
      by_cases c30 : t114 = 0
      rotate_left
      · rw [if_neg c30] at H
        have c30b0 : (t114 == 0) = false := beq_eq_false_iff_ne.mpr c30
        have c30b1 : (t114 != 0) = true := bne_iff_ne.mpr c30
        exact absurd (hT.symm.trans (Option.some.inj H).symm) (by decide)
      rw [if_pos c30] at H
      have c30b0 : (t114 == 0) = true := beq_iff_eq.mpr c30
      have c30b1 : (t114 != 0) = false := bne_eq_false_iff_eq.mpr c30
      clear c30
      by_cases c31 : t113 = true
      rotate_left
      · replace c31 := Bool.eq_false_iff.mpr c31
        subst c31
        have H1 : (some false) = some r := by rw [if_neg (show ¬ (false = true) by decide)] at H; exact H
        clear H
        have H := H1
        clear H1
        exact absurd (hT.symm.trans (Option.some.inj H).symm) (by decide)
      subst c31
      have H1 : ((dropperlaw08_Awake.f kj7).bind fun t115 => (some t115)) = some r := by rw [if_pos rfl] at H; exact H
      clear H
      have H := H1
      clear H1
      replace H := Option.bind_eq_some_iff.mp H
      obtain ⟨t115, A320, H⟩ := H
      replace H : (some t115) = some r := H
      have A32 := Aside0.mk A320
      clear A320
      clear hT
      obtain rfl := Option.some.inj H
      go_wp2_with (first | ((with_reducible refine gate_callee (f := 45) rfl ?_); refine goesL_ (some 34) rfl rfl Try.func45 (by kernel_rfl) rfl #[.slice A0 l0.length c0] rfl (by (try simp only [List.map_toArray, List.map_cons, List.map_nil]); first | done | rfl | (simp only [List.length_drop, List.length_take]; rfl)) ?_; (with_reducible refine (ice_Rota.calls kj7 _ _ l0 t107 t108 _ ?side1 ?side2 A13.out).mono ?_); (case side1 => repeat (first | exact (Kd.C_below HR0.out HB.out) | (with_reducible refine Kd.C_alloc ?_ _) | (with_reducible refine Kd.C_drewN ?_ _) | (with_reducible refine Kd.C_drew ?_))); (case side2 => exact HC0.out); rintro e w33 ⟨v109, rfl, ho0, hb⟩; refine ⟨_, rfl, ?_⟩; have n0_ := Aside0.mk (Kd.Q_lower ho0 (below_size (by repeat (first | (with_reducible first | exact HB.out | apply below_alloc | apply pw_below_drewN | apply below_drew1) | exact HB.out)))); have n1_ := Aside0.mk (below_step (by repeat (first | (with_reducible first | exact HB.out | apply below_alloc | apply pw_below_drewN | apply below_drew1) | exact HB.out)) hb); clear HB; have HO110 := n0_; have HB := n1_; clear n0_ n1_; (try clear hb); (try clear hb2); (try clear hk); (try clear hi); (try clear ho0); obtain ⟨Ao34, co34, eo34, _⟩ := Kd.Q_slice HO110.out; subst eo34) | ((with_reducible refine gate_callee (f := 28) rfl ?_); refine goesL_ (some 65) rfl rfl Try.func28 (by kernel_rfl) rfl #[.slice A0 l0.length c0, .slice Ao34 t107.length co34] rfl (by (try simp only [List.map_toArray, List.map_cons, List.map_nil]); first | done | rfl | (simp only [List.length_drop, List.length_take]; rfl)) ?_; (with_reducible refine (dropperref08_IsRota.calls kj7 _ _ l0 _ _ t107 true t114 _ ?side1 ?side2 ?side3 ?side4 A28.out).mono ?_); (case side1 => repeat (first | exact (Kd.C_below HR0.out HB.out) | (with_reducible refine Kd.C_alloc ?_ _) | (with_reducible refine Kd.C_drewN ?_ _) | (with_reducible refine Kd.C_drew ?_))); (case side2 => exact HC0.out); (case side3 => repeat (first | exact (Kd.Q_reads' HO110.out).2.2 | (with_reducible refine Kd.C_alloc ?_ _) | (with_reducible refine Kd.C_drewN ?_ _) | (with_reducible refine Kd.C_drew ?_))); (case side4 => exact (Kd.Q_reads' HO110.out).2.1); rintro e w35 ⟨rfl, hb⟩; refine ⟨_, rfl, ?_⟩; have n0_ := Aside0.mk (Kd.Q_below (by (with_reducible repeat (first | apply Kd.Q_alloc | apply Kd.Q_drewN | apply Kd.Q_drew)); exact HO110.out) hb); have n1_ := Aside0.mk (below_step (by repeat (first | (with_reducible first | exact HB.out | apply below_alloc | apply pw_below_drewN | apply below_drew1) | exact HB.out)) hb); clear HO110; clear HB; have HO110 := n0_; have HB := n1_; clear n0_ n1_; (try clear hb); (try clear hb2); (try clear hk); (try clear hi)) | (go_at_call 12; (with_reducible refine (dropperlaw08_Awake.calls kj7  t115 _ A32.out).mono ?_); rintro e w36 ⟨rfl, hb⟩; have n0_ := Aside0.mk (Kd.Q_below (by (with_reducible repeat (first | apply Kd.Q_alloc | apply Kd.Q_drewN | apply Kd.Q_drew)); exact HO110.out) hb); have n1_ := Aside0.mk (below_step (by repeat (first | (with_reducible first | exact HB.out | apply below_alloc | apply pw_below_drewN | apply below_drew1) | exact HB.out)) hb); clear HO110; clear HB; have HO110 := n0_; have HB := n1_; clear n0_ n1_; (try clear hb); (try clear hb2); (try clear hk); (try clear hi)))
      go_ret
      exact ⟨by first | rfl | (simp [errW_none, errW_some] <;> rfl) | (simp [*, errW_none, errW_some] <;> rfl), by repeat (first | (with_reducible first | exact HB.out | apply below_alloc | apply pw_below_drewN | apply below_drew1) | exact HB.out)⟩
end Go.Proofs.Ythbpibdfookbmaa.G
end
