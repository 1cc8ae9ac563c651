-- Written by this session's driver (wip/tools/printmore.py) over the kit's print, with hand-written parts.
import Derived.Test.YtiapmkndgalgnaaGBase
import Derived.Test.YtiapmkndgalgnaaGF14
import Derived.Test.YtiapmkndgalgnaaGF15
import Derived.Test.YtiapmkndgalgnaaGF46
import Derived.Test.YtiapmkndgalgnaaGF47
import Derived.Test.YtiapmkndgalgnaaGF48
import Derived.Test.YtiapmkndgalgnaaGF49
import Derived.Test.YtiapmkndgalgnaaGF50
namespace Go.Proofs.Ytiapmkndgalgnaa.G
open Go.RowKit Go.Proofs.YtiapmkndgalgnaaW.PrintWords Go.Proofs.YtiapmkndgalgnaaW.PrintLast Go.Proofs.YtiapmkndgalgnaaW.PrintMore
attribute [local go_sem] max2_int min2_int max_two min_two max_three min_three max_four min_four   -- for this text's walks alone
set_option linter.unusedVariables false
set_option linter.unusedSimpArgs false

/-! ### dropperlaw03_ArmBlocks: function 12 -/
def dropperlaw03_ArmBlocks.j0 : Nat → List (S73) → List (S84) → Bool → Option (Bool)
  | 0, _, _, _ => none
  | k + 1, x0, x1, x19 => if x19 = true then ((dropperlaw03_First.f k).bind fun t102 => (some t102)) else ((arm_Blocks.f k x0).bind fun bt103 => ((dropperref03_Blocks.f k x0).bind fun bt107 => ((arm_AreBlocks.f k x0 x1).bind fun bt111 => ((dropperref03_AreBlocks.f k x0 x1).bind fun bt113 => ((dropperlaw03_sameBlocks.f k bt103.1 bt107.1).bind fun t115 => (if t115 = true then (if bt103.2 = bt107.2 then (if (bt111.1 == bt113.1) = true then (if bt111.2 = bt113.2 then ((dropperlaw03_First.f k).bind fun t116 => (some t116)) else (some false)) else (some false)) else (some false)) else (some false)))))))
def dropperlaw03_ArmBlocks.f (k : Nat) (l0 : List (S73)) (l1 : List (S84)) : Option (Bool) := (dropperlaw03_Long.f l0).bind fun t101 => (if t101 = true then (dropperlaw03_ArmBlocks.j0 k l0 l1 true) else (dropperlaw03_ArmBlocks.j0 k l0 l1 (decide ((l1.length : Int) > 50))))
theorem dropperlaw03_ArmBlocks.mono_l : ∀ k, (∀ y0 y1 y2, LeO (dropperlaw03_ArmBlocks.j0 k y0 y1 y2) (dropperlaw03_ArmBlocks.j0 (k + 1) y0 y1 y2))
  | 0 => fun _ _ _ r h => by simp [dropperlaw03_ArmBlocks.j0] at h
  | k + 1 => by
    have ih0 := dropperlaw03_ArmBlocks.mono_l k
    · intro y0 y1 y2
      unfold dropperlaw03_ArmBlocks.j0
      repeat' first
      | (with_reducible exact ih0 _ _ _)
      | (with_reducible exact arm_AreBlocks.mono _ _ _)
      | (with_reducible exact arm_Blocks.mono _ _)
      | (with_reducible exact dropperlaw03_First.mono _)
      | (with_reducible exact dropperlaw03_sameBlocks.mono _ _ _)
      | (with_reducible exact dropperref03_AreBlocks.mono _ _ _)
      | (with_reducible exact dropperref03_Blocks.mono _ _)
      | (with_reducible exact LeO.refl _)
      | (with_reducible exact LeO.none _)
      | (with_reducible refine LeO.ite ?_ ?_)
      | (with_reducible refine LeO.bind ?_ (fun _ => ?_))
      | exact ih0 _ _ _
      | exact arm_AreBlocks.mono _ _ _
      | exact arm_Blocks.mono _ _
      | exact dropperlaw03_First.mono _
      | exact dropperlaw03_sameBlocks.mono _ _ _
      | exact dropperref03_AreBlocks.mono _ _ _
      | exact dropperref03_Blocks.mono _ _
      | exact LeO.none _
      | refine LeO.ite ?_ ?_
      | refine LeO.bind ?_ (fun _ => ?_)
theorem dropperlaw03_ArmBlocks.mono : ∀ a0 a1 k, LeO (dropperlaw03_ArmBlocks.f k a0 a1) (dropperlaw03_ArmBlocks.f (k + 1) a0 a1) := by
  intro a0 a1 k
  have ih0 := dropperlaw03_ArmBlocks.mono_l k
  unfold dropperlaw03_ArmBlocks.f
  repeat' first
      | (with_reducible exact ih0 _ _ _)
      | (with_reducible exact arm_AreBlocks.mono _ _ _)
      | (with_reducible exact arm_Blocks.mono _ _)
      | (with_reducible exact dropperlaw03_First.mono _)
      | (with_reducible exact dropperlaw03_sameBlocks.mono _ _ _)
      | (with_reducible exact dropperref03_AreBlocks.mono _ _ _)
      | (with_reducible exact dropperref03_Blocks.mono _ _)
      | (with_reducible exact LeO.refl _)
      | (with_reducible exact LeO.none _)
      | (with_reducible refine LeO.ite ?_ ?_)
      | (with_reducible refine LeO.bind ?_ (fun _ => ?_))
      | exact ih0 _ _ _
      | exact arm_AreBlocks.mono _ _ _
      | exact arm_Blocks.mono _ _
      | exact dropperlaw03_First.mono _
      | exact dropperlaw03_sameBlocks.mono _ _ _
      | exact dropperref03_AreBlocks.mono _ _ _
      | exact dropperref03_Blocks.mono _ _
      | exact LeO.none _
      | refine LeO.ite ?_ ?_
      | refine LeO.bind ?_ (fun _ => ?_)
set_option maxHeartbeats 8000000 in
set_option maxRecDepth 100000 in
theorem dropperlaw03_ArmBlocks.calls (k : Nat) (A0 : Option Addr) (c0 : Nat) (l0 : List (S73)) (A1 : Option Addr) (c1 : Nat) (l1 : List (S84)) (r : Bool) (w : World) (hr0 : Kd.C k73 w A0 l0.length l0) (hc0 : l0.length ≤ c0) (hr1 : Kd.C k84 w A1 l1.length l1) (hc1 : l1.length ≤ c1) (h : dropperlaw03_ArmBlocks.f k l0 l1 = some r) (hT : r = true) :
    Calls Try.prog 12 #[.slice A0 l0.length c0, .slice A1 l1.length c1] w fun e w' => e = .returned (.bool r) ∧ Below w.heap.size w w' := by
  have HR0 := Aside0.mk hr0
  have HC0 := Aside0.mk hc0
  clear hr0 hc0
  have HR1 := Aside0.mk hr1
  have HC1 := Aside0.mk hc1
  clear hr1 hc1
  have HB := Aside0.mk (Below.refl w.heap.size w)
  have H : ((dropperlaw03_Long.f l0).bind fun t101 => (if t101 = true then (dropperlaw03_ArmBlocks.j0 k l0 l1 true) else (dropperlaw03_ArmBlocks.j0 k l0 l1 (decide ((l1.length : Int) > 50))))) = some r := h
  clear h
  have HC3 := Aside0.mk H
  clear H
  go_enter Try.func12, Try.ntmps12
  go_upto_region 1 with (fail)
  go_cut [19] (fun v19 wc => ∃ (kq : Nat) (x19_2 : Bool), v19 = .bool x19_2 ∧ Aside0 (dropperlaw03_ArmBlocks.j0 kq l0 l1 x19_2 = some r) ∧ Aside0 (kq ≤ k) ∧ Aside0 (Below w.heap.size w wc))
  case first =>
    have H := HC3.out
    clear HC3
    replace H := Option.bind_eq_some_iff.mp H
    obtain ⟨t101, A40, H⟩ := H
    replace H : (if t101 = true then (dropperlaw03_ArmBlocks.j0 k l0 l1 true) else (dropperlaw03_ArmBlocks.j0 k l0 l1 (decide ((l1.length : Int) > 50)))) = some r := H
    have A4 := Aside0.mk A40
    clear A40
    by_cases c5 : t101 = true
    · subst c5
      have H1 : (dropperlaw03_ArmBlocks.j0 k l0 l1 true) = some r := by rw [if_pos rfl] at H; exact H
      clear H
      have H := H1
      clear H1
      have H' := Aside0.mk H
      clear H
      go_wp2_with (first | ((with_reducible refine gate_callee (f := 15) rfl ?_); refine goesL_ (some 14) rfl rfl Try.func15 (by kernel_rfl) rfl #[.slice A0 l0.length c0] rfl (by (try simp only [List.map_toArray, List.map_cons, List.map_nil]); first | done | rfl | (simp only [List.length_drop, List.length_take]; rfl)) ?_; (with_reducible refine (dropperlaw03_Long.calls _ _ l0 true _ ?side1 ?side2 A4.out).mono ?_); (case side1 => repeat (first | exact (Kd.C_below HR0.out HB.out) | (with_reducible refine Kd.C_alloc ?_ _) | (with_reducible refine Kd.C_drewN ?_ _) | (with_reducible refine Kd.C_drew ?_))); (case side2 => exact HC0.out); rintro e w' ⟨rfl, ⟨nd, rfl⟩⟩; refine ⟨_, rfl, ?_⟩))
      go_meet
      case rel => exact ⟨_, (true), (by first | rfl | (simp; done) | (simp [*]; done)), H', ⟨by first | omega | exact Nat.le_refl _⟩, ⟨by repeat (first | (with_reducible first | exact HB.out | apply below_alloc | apply pw_below_drewN | apply below_drew1) | exact HB.out)⟩⟩
    replace c5 := Bool.eq_false_iff.mpr c5
    subst c5
    have H1 : (dropperlaw03_ArmBlocks.j0 k l0 l1 (decide ((l1.length : Int) > 50))) = some r := by rw [if_neg (show ¬ (false = true) by decide)] at H; exact H
    clear H
    have H := H1
    clear H1
    have H' := Aside0.mk H
    clear H
    go_wp2_with (first | ((with_reducible refine gate_callee (f := 15) rfl ?_); refine goesL_ (some 14) rfl rfl Try.func15 (by kernel_rfl) rfl #[.slice A0 l0.length c0] rfl (by (try simp only [List.map_toArray, List.map_cons, List.map_nil]); first | done | rfl | (simp only [List.length_drop, List.length_take]; rfl)) ?_; (with_reducible refine (dropperlaw03_Long.calls _ _ l0 false _ ?side1 ?side2 A4.out).mono ?_); (case side1 => repeat (first | exact (Kd.C_below HR0.out HB.out) | (with_reducible refine Kd.C_alloc ?_ _) | (with_reducible refine Kd.C_drewN ?_ _) | (with_reducible refine Kd.C_drew ?_))); (case side2 => exact HC0.out); rintro e w' ⟨rfl, ⟨nd, rfl⟩⟩; refine ⟨_, rfl, ?_⟩))
    go_meet
    case rel => exact ⟨_, (decide ((l1.length : Int) > 50)), (by first | rfl | (simp; done) | (simp [*]; done)), H', ⟨by first | omega | exact Nat.le_refl _⟩, ⟨by repeat (first | (with_reducible first | exact HB.out | apply below_alloc | apply pw_below_drewN | apply below_drew1) | exact HB.out)⟩⟩
  case rest =>
    clear HC3
    try clear c1
    try clear p2
    try clear c5
    obtain ⟨kq, x19_2, rfl, HA, HJ2, HB⟩ := hcut
    cases kq with
    | zero => exact absurd HA.out (by simp [dropperlaw03_ArmBlocks.j0])
    | succ kj2 =>
      have H := HA.out
      clear HA
      simp only [dropperlaw03_ArmBlocks.j0] at H
      by_cases c6 : x19_2 = true
      · subst c6
        have H1 : ((dropperlaw03_First.f kj2).bind fun t102 => (some t102)) = some r := by rw [if_pos rfl] at H; exact H
        clear H
        have H := H1
        clear H1
        replace H := Option.bind_eq_some_iff.mp H
        obtain ⟨t102, A70, H⟩ := H
        replace H : (some t102) = some r := H
        have A7 := Aside0.mk A70
        clear A70
        clear hT
        obtain rfl := Option.some.inj H
        go_wp2_with (first | ((with_reducible refine gate_callee (f := 14) rfl ?_); refine goesL_ (some 20) rfl rfl Try.func14 (by kernel_rfl) rfl #[] rfl (by (try simp only [List.map_toArray, List.map_cons, List.map_nil]); first | done | rfl | (simp only [List.length_drop, List.length_take]; rfl)) ?_; (with_reducible refine (dropperlaw03_First.calls kj2  t102 _ A7.out).mono ?_); rintro e w8 ⟨rfl, hb⟩; refine ⟨_, rfl, ?_⟩; have n0_ := Aside0.mk (below_step (by repeat (first | (with_reducible first | exact HB.out | apply below_alloc | apply pw_below_drewN | apply below_drew1) | exact HB.out)) hb); clear HB; have HB := n0_; clear n0_; (try clear hb); (try clear hb2); (try clear hk); (try clear hi)))
        go_ret
        exact ⟨by first | rfl | (simp [errW_none, errW_some] <;> rfl) | (simp [*, errW_none, errW_some] <;> rfl), by repeat (first | (with_reducible first | exact HB.out | apply below_alloc | apply pw_below_drewN | apply below_drew1) | exact HB.out)⟩
      replace c6 := Bool.eq_false_iff.mpr c6
      subst c6
      have H1 : ((arm_Blocks.f kj2 l0).bind fun bt103 => ((dropperref03_Blocks.f kj2 l0).bind fun bt107 => ((arm_AreBlocks.f kj2 l0 l1).bind fun bt111 => ((dropperref03_AreBlocks.f kj2 l0 l1).bind fun bt113 => ((dropperlaw03_sameBlocks.f kj2 bt103.1 bt107.1).bind fun t115 => (if t115 = true then (if bt103.2 = bt107.2 then (if (bt111.1 == bt113.1) = true then (if bt111.2 = bt113.2 then ((dropperlaw03_First.f kj2).bind fun t116 => (some t116)) else (some false)) else (some false)) else (some false)) else (some false))))))) = some r := by rw [if_neg (show ¬ (false = true) by decide)] at H; exact H
      clear H
      have H := H1
      clear H1
      replace H := Option.bind_eq_some_iff.mp H
      obtain ⟨⟨t103, t104⟩, A90, H⟩ := H
      replace H : ((dropperref03_Blocks.f kj2 l0).bind fun bt107 => ((arm_AreBlocks.f kj2 l0 l1).bind fun bt111 => ((dropperref03_AreBlocks.f kj2 l0 l1).bind fun bt113 => ((dropperlaw03_sameBlocks.f kj2 t103 bt107.1).bind fun t115 => (if t115 = true then (if t104 = bt107.2 then (if (bt111.1 == bt113.1) = true then (if bt111.2 = bt113.2 then ((dropperlaw03_First.f kj2).bind fun t116 => (some t116)) else (some false)) else (some false)) else (some false)) else (some false)))))) = some r := H
      have A9 := Aside0.mk A90
      clear A90
      replace H := Option.bind_eq_some_iff.mp H
      obtain ⟨⟨t107, t108⟩, A100, H⟩ := H
      replace H : ((arm_AreBlocks.f kj2 l0 l1).bind fun bt111 => ((dropperref03_AreBlocks.f kj2 l0 l1).bind fun bt113 => ((dropperlaw03_sameBlocks.f kj2 t103 t107).bind fun t115 => (if t115 = true then (if t104 = t108 then (if (bt111.1 == bt113.1) = true then (if bt111.2 = bt113.2 then ((dropperlaw03_First.f kj2).bind fun t116 => (some t116)) else (some false)) else (some false)) else (some false)) else (some false))))) = some r := H
      have A10 := Aside0.mk A100
      clear A100
      replace H := Option.bind_eq_some_iff.mp H
      obtain ⟨⟨t111, t112⟩, A110, H⟩ := H
      replace H : ((dropperref03_AreBlocks.f kj2 l0 l1).bind fun bt113 => ((dropperlaw03_sameBlocks.f kj2 t103 t107).bind fun t115 => (if t115 = true then (if t104 = t108 then (if (t111 == bt113.1) = true then (if t112 = bt113.2 then ((dropperlaw03_First.f kj2).bind fun t116 => (some t116)) else (some false)) else (some false)) else (some false)) else (some false)))) = some r := H
      have A11 := Aside0.mk A110
      clear A110
      replace H := Option.bind_eq_some_iff.mp H
      obtain ⟨⟨t113, t114⟩, A120, H⟩ := H
      replace H : ((dropperlaw03_sameBlocks.f kj2 t103 t107).bind fun t115 => (if t115 = true then (if t104 = t108 then (if (t111 == t113) = true then (if t112 = t114 then ((dropperlaw03_First.f kj2).bind fun t116 => (some t116)) else (some false)) else (some false)) else (some false)) else (some false))) = some r := H
      have A12 := Aside0.mk A120
      clear A120
      replace H := Option.bind_eq_some_iff.mp H
      obtain ⟨t115, A130, H⟩ := H
      replace H : (if t115 = true then (if t104 = t108 then (if (t111 == t113) = true then (if t112 = t114 then ((dropperlaw03_First.f kj2).bind fun t116 => (some t116)) else (some false)) else (some false)) else (some false)) else (some false)) = some r := H
      have A13 := Aside0.mk A130
      clear A130
      by_cases c14 : t115 = true
      rotate_left
      · replace c14 := Bool.eq_false_iff.mpr c14
        subst c14
        have H1 : (some false) = some r := by rw [if_neg (show ¬ (false = true) by decide)] at H; exact H
        clear H
        have H := H1
        clear H1
        exact absurd (hT.symm.trans (Option.some.inj H).symm) (by decide)

      subst c14
      have H1 : (if t104 = t108 then (if (t111 == t113) = true then (if t112 = t114 then ((dropperlaw03_First.f kj2).bind fun t116 => (some t116)) else (some false)) else (some false)) else (some false)) = some r := by rw [if_pos rfl] at H; exact H
      clear H
      have H := H1
      clear H1
      by_cases c15 : t104 = t108
      rotate_left
      · rw [if_neg c15] at H
        have c15b0 : (t104 == t108) = false := beq_eq_false_iff_ne.mpr c15
        have c15b1 : (t104 != t108) = true := bne_iff_ne.mpr c15
        exact absurd (hT.symm.trans (Option.some.inj H).symm) (by decide)
      rw [if_pos c15] at H
      have c15b0 : (t104 == t108) = true := beq_iff_eq.mpr c15
      have c15b1 : (t104 != t108) = false := bne_eq_false_iff_eq.mpr c15
      clear c15
      by_cases c16 : (t111 == t113) = true
      rotate_left
      · rw [if_neg c16] at H
        have c16b0 : (t111 == t113) = false := by simpa using c16
        (try (have c16b1 : decide (t111 = t113) = false := by simpa using c16))
        (try (have c16b2 : (t111 == t113) = false := by simpa using c16))
        (try (have c16b3 : ¬ (t111 = t113) := by simpa using c16))
        clear c16
        exact absurd (hT.symm.trans (Option.some.inj H).symm) (by decide)
      rw [if_pos c16] at H
      have c16b0 : (t111 == t113) = true := c16
      (try (have c16b1 : decide (t111 = t113) = true := by simpa using c16))
      (try (have c16b2 : (t111 == t113) = true := by simpa using c16))
      clear c16
      by_cases c17 : t112 = t114
      rotate_left
      · rw [if_neg c17] at H
        have c17b0 : (t112 == t114) = false := beq_eq_false_iff_ne.mpr c17
        have c17b1 : (t112 != t114) = true := bne_iff_ne.mpr c17
        exact absurd (hT.symm.trans (Option.some.inj H).symm) (by decide)
      rw [if_pos c17] at H
      have c17b0 : (t112 == t114) = true := beq_iff_eq.mpr c17
      have c17b1 : (t112 != t114) = false := bne_eq_false_iff_eq.mpr c17
      clear c17
      replace H := Option.bind_eq_some_iff.mp H
      obtain ⟨t116, A180, H⟩ := H
      replace H : (some t116) = some r := H
      have A18 := Aside0.mk A180
      clear A180
      clear hT
      obtain rfl := Option.some.inj H
      go_wp2_with (first | ((with_reducible refine gate_callee (f := 46) rfl ?_); refine goesL_ (some 23) rfl rfl Try.func46 (by kernel_rfl) rfl #[.slice A0 l0.length c0] rfl (by (try simp only [List.map_toArray, List.map_cons, List.map_nil]); first | done | rfl | (simp only [List.length_drop, List.length_take]; rfl)) ?_; (with_reducible refine (arm_Blocks.calls kj2 _ _ l0 t103 t104 _ ?side1 ?side2 A9.out).mono ?_); (case side1 => repeat (first | exact (Kd.C_below HR0.out HB.out) | (with_reducible refine Kd.C_alloc ?_ _) | (with_reducible refine Kd.C_drewN ?_ _) | (with_reducible refine Kd.C_drew ?_))); (case side2 => exact HC0.out); rintro e w19 ⟨v105, rfl, ho0, hb⟩; refine ⟨_, rfl, ?_⟩; have n0_ := Aside0.mk (Kd.R_lower ho0 (below_size (by repeat (first | (with_reducible first | exact HB.out | apply below_alloc | apply pw_below_drewN | apply below_drew1) | exact HB.out)))); have n1_ := Aside0.mk (below_step (by repeat (first | (with_reducible first | exact HB.out | apply below_alloc | apply pw_below_drewN | apply below_drew1) | exact HB.out)) hb); clear HB; have HO106 := n0_; have HB := n1_; clear n0_ n1_; (try clear hb); (try clear hb2); (try clear hk); (try clear hi); (try clear ho0)) | ((with_reducible refine gate_callee (f := 49) rfl ?_); refine goesL_ (some 28) rfl rfl Try.func49 (by kernel_rfl) rfl #[.slice A0 l0.length c0] rfl (by (try simp only [List.map_toArray, List.map_cons, List.map_nil]); first | done | rfl | (simp only [List.length_drop, List.length_take]; rfl)) ?_; (with_reducible refine (dropperref03_Blocks.calls kj2 _ _ l0 t107 t108 _ ?side1 ?side2 A10.out).mono ?_); (case side1 => repeat (first | exact (Kd.C_below HR0.out HB.out) | (with_reducible refine Kd.C_alloc ?_ _) | (with_reducible refine Kd.C_drewN ?_ _) | (with_reducible refine Kd.C_drew ?_))); (case side2 => exact HC0.out); rintro e w20 ⟨v109, rfl, ho0, hb⟩; refine ⟨_, rfl, ?_⟩; have n0_ := Aside0.mk (Kd.R_elder' (by (with_reducible repeat (first | apply Kd.R_alloc | apply Kd.R_drewN | apply Kd.R_drew)); exact HO106.out) (Kd.R_base ho0) hb); have n1_ := Aside0.mk (Kd.R_lower (Kd.R_new' ho0 (Kd.R_lt (by (with_reducible repeat (first | apply Kd.R_alloc | apply Kd.R_drewN | apply Kd.R_drew)); exact HO106.out))) (below_size (by repeat (first | (with_reducible first | exact HB.out | apply below_alloc | apply pw_below_drewN | apply below_drew1) | exact HB.out)))); have n2_ := Aside0.mk (below_step (by repeat (first | (with_reducible first | exact HB.out | apply below_alloc | apply pw_below_drewN | apply below_drew1) | exact HB.out)) hb); clear HO106; clear HB; have HO106 := n0_; have HO110 := n1_; have HB := n2_; clear n0_ n1_ n2_; (try clear hb); (try clear hb2); (try clear hk); (try clear hi); (try clear ho0)) | ((with_reducible refine gate_callee (f := 47) rfl ?_); refine goesL_ (some 34) rfl rfl Try.func47 (by kernel_rfl) rfl #[.slice A0 l0.length c0, .slice A1 l1.length c1] rfl (by (try simp only [List.map_toArray, List.map_cons, List.map_nil]); first | done | rfl | (simp only [List.length_drop, List.length_take]; rfl)) ?_; (with_reducible refine (arm_AreBlocks.calls kj2 _ _ l0 _ _ l1 t111 t112 _ ?side1 ?side2 ?side3 ?side4 A11.out).mono ?_); (case side1 => repeat (first | exact (Kd.C_below HR0.out HB.out) | (with_reducible refine Kd.C_alloc ?_ _) | (with_reducible refine Kd.C_drewN ?_ _) | (with_reducible refine Kd.C_drew ?_))); (case side2 => exact HC0.out); (case side3 => repeat (first | exact (Kd.C_below HR1.out HB.out) | (with_reducible refine Kd.C_alloc ?_ _) | (with_reducible refine Kd.C_drewN ?_ _) | (with_reducible refine Kd.C_drew ?_))); (case side4 => exact HC1.out); rintro e w21 ⟨rfl, hb⟩; refine ⟨_, rfl, ?_⟩; have n0_ := Aside0.mk (Kd.R_below (by (with_reducible repeat (first | apply Kd.R_alloc | apply Kd.R_drewN | apply Kd.R_drew)); exact HO106.out) hb); have n1_ := Aside0.mk (Kd.R_below (by (with_reducible repeat (first | apply Kd.R_alloc | apply Kd.R_drewN | apply Kd.R_drew)); exact HO110.out) hb); have n2_ := Aside0.mk (below_step (by repeat (first | (with_reducible first | exact HB.out | apply below_alloc | apply pw_below_drewN | apply below_drew1) | exact HB.out)) hb); clear HO106; clear HO110; clear HB; have HO106 := n0_; have HO110 := n1_; have HB := n2_; clear n0_ n1_ n2_; (try clear hb); (try clear hb2); (try clear hk); (try clear hi)) | ((with_reducible refine gate_callee (f := 48) rfl ?_); refine goesL_ (some 40) rfl rfl Try.func48 (by kernel_rfl) rfl #[.slice A0 l0.length c0, .slice A1 l1.length c1] rfl (by (try simp only [List.map_toArray, List.map_cons, List.map_nil]); first | done | rfl | (simp only [List.length_drop, List.length_take]; rfl)) ?_; (with_reducible refine (dropperref03_AreBlocks.calls kj2 _ _ l0 _ _ l1 t113 t114 _ ?side1 ?side2 ?side3 ?side4 A12.out).mono ?_); (case side1 => repeat (first | exact (Kd.C_below HR0.out HB.out) | (with_reducible refine Kd.C_alloc ?_ _) | (with_reducible refine Kd.C_drewN ?_ _) | (with_reducible refine Kd.C_drew ?_))); (case side2 => exact HC0.out); (case side3 => repeat (first | exact (Kd.C_below HR1.out HB.out) | (with_reducible refine Kd.C_alloc ?_ _) | (with_reducible refine Kd.C_drewN ?_ _) | (with_reducible refine Kd.C_drew ?_))); (case side4 => exact HC1.out); rintro e w22 ⟨rfl, hb⟩; refine ⟨_, rfl, ?_⟩; have n0_ := Aside0.mk (Kd.R_below (by (with_reducible repeat (first | apply Kd.R_alloc | apply Kd.R_drewN | apply Kd.R_drew)); exact HO106.out) hb); have n1_ := Aside0.mk (Kd.R_below (by (with_reducible repeat (first | apply Kd.R_alloc | apply Kd.R_drewN | apply Kd.R_drew)); exact HO110.out) hb); have n2_ := Aside0.mk (below_step (by repeat (first | (with_reducible first | exact HB.out | apply below_alloc | apply pw_below_drewN | apply below_drew1) | exact HB.out)) hb); clear HO106; clear HO110; clear HB; have HO106 := n0_; have HO110 := n1_; have HB := n2_; clear n0_ n1_ n2_; (try clear hb); (try clear hb2); (try clear hk); (try clear hi); obtain ⟨Ao23, co23, eo23⟩ := Kd.R_slice HO106.out; subst eo23; obtain ⟨Ao24, co24, eo24⟩ := Kd.R_slice HO110.out; subst eo24) | ((with_reducible refine gate_callee (f := 50) rfl ?_); refine goesL_ (some 45) rfl rfl Try.func50 (by kernel_rfl) rfl #[.slice Ao23 t103.length co23, .slice Ao24 t107.length co24] rfl (by (try simp only [List.map_toArray, List.map_cons, List.map_nil]); first | done | rfl | (simp only [List.length_drop, List.length_take]; rfl)) ?_; (with_reducible refine (dropperlaw03_sameBlocks.calls kj2 _ _ t103 _ _ t107 true _ ?side1 ?side2 ?side3 ?side4 A13.out).mono ?_); (case side1 => repeat (first | exact (Kd.R_reads' HO106.out).2.2 | (with_reducible refine Kd.C_alloc ?_ _) | (with_reducible refine Kd.C_drewN ?_ _) | (with_reducible refine Kd.C_drew ?_))); (case side2 => exact (Kd.R_reads' HO106.out).2.1); (case side3 => repeat (first | exact (Kd.R_reads' HO110.out).2.2 | (with_reducible refine Kd.C_alloc ?_ _) | (with_reducible refine Kd.C_drewN ?_ _) | (with_reducible refine Kd.C_drew ?_))); (case side4 => exact (Kd.R_reads' HO110.out).2.1); rintro e w' ⟨rfl, ⟨nd, rfl⟩⟩; refine ⟨_, rfl, ?_⟩) | (go_at_call 14; (with_reducible refine (dropperlaw03_First.calls kj2  t116 _ A18.out).mono ?_); rintro e w25 ⟨rfl, hb⟩; have n0_ := Aside0.mk (Kd.R_below (by (with_reducible repeat (first | apply Kd.R_alloc | apply Kd.R_drewN | apply Kd.R_drew)); exact HO106.out) hb); have n1_ := Aside0.mk (Kd.R_below (by (with_reducible repeat (first | apply Kd.R_alloc | apply Kd.R_drewN | apply Kd.R_drew)); exact HO110.out) hb); have n2_ := Aside0.mk (below_step (by repeat (first | (with_reducible first | exact HB.out | apply below_alloc | apply pw_below_drewN | apply below_drew1) | exact HB.out)) hb); clear HO106; clear HO110; clear HB; have HO106 := n0_; have HO110 := n1_; have HB := n2_; clear n0_ n1_ n2_; (try clear hb); (try clear hb2); (try clear hk); (try clear hi)))
      go_ret
      exact ⟨by first | rfl | (simp [errW_none, errW_some] <;> rfl) | (simp [*, errW_none, errW_some] <;> rfl), by repeat (first | (with_reducible first | exact HB.out | apply below_alloc | apply pw_below_drewN | apply below_drew1) | exact HB.out)⟩
end Go.Proofs.Ytiapmkndgalgnaa.G
