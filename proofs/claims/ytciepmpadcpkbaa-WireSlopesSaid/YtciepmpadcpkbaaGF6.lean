-- Written by this session's driver (wip/tools/printmore.py) over the kit's print, with hand-written parts.
import Derived.Test.YtciepmpadcpkbaaGBase
import Derived.Test.YtciepmpadcpkbaaGF13
import Derived.Test.YtciepmpadcpkbaaGF14
import Derived.Test.YtciepmpadcpkbaaGF30
import Derived.Test.YtciepmpadcpkbaaGF31
namespace Go.Proofs.Ytciepmpadcpkbaa.G
open Go.RowKit Go.Proofs.YtciepmpadcpkbaaW.PrintWords Go.Proofs.YtciepmpadcpkbaaW.PrintLast Go.Proofs.YtciepmpadcpkbaaW.PrintMore
attribute [local go_sem] max2_int min2_int max_two min_two max_three min_three max_four min_four   -- for this text's walks alone
set_option linter.unusedVariables false
set_option linter.unusedSimpArgs false

/-! ### dropperlaw02_WireGentlest: function 6 -/
def dropperlaw02_WireGentlest.f (k : Nat) (l0 : List (S72)) (a1 : Int) : Option (Bool) := (dropperlaw02_Large.f k l0 ([] : List (List Int))).bind fun t101 => (if t101 = true then ((dropperlaw02_Awake.f k).bind fun t102 => (some t102)) else ((wire_Gentlest.f k l0 a1).bind fun bt103 => ((dropperref02_Gentlest.f k l0 a1).bind fun bt105 => (if bt103.1 = bt105.1 then (if bt103.2 = bt105.2 then ((dropperlaw02_Awake.f k).bind fun t107 => (some t107)) else (some false)) else (some false)))))
theorem dropperlaw02_WireGentlest.mono : ∀ a0 a1 k, LeO (dropperlaw02_WireGentlest.f k a0 a1) (dropperlaw02_WireGentlest.f (k + 1) a0 a1) := by
  intro a0 a1 k
  unfold dropperlaw02_WireGentlest.f
  repeat' first
      | (with_reducible exact dropperlaw02_Awake.mono _)
      | (with_reducible exact dropperlaw02_Large.mono _ _ _)
      | (with_reducible exact dropperref02_Gentlest.mono _ _ _)
      | (with_reducible exact wire_Gentlest.mono _ _ _)
      | (with_reducible exact LeO.refl _)
      | (with_reducible exact LeO.none _)
      | (with_reducible refine LeO.ite ?_ ?_)
      | (with_reducible refine LeO.bind ?_ (fun _ => ?_))
      | exact dropperlaw02_Awake.mono _
      | exact dropperlaw02_Large.mono _ _ _
      | exact dropperref02_Gentlest.mono _ _ _
      | exact wire_Gentlest.mono _ _ _
      | exact LeO.none _
      | refine LeO.ite ?_ ?_
      | refine LeO.bind ?_ (fun _ => ?_)
set_option maxHeartbeats 8000000 in
set_option maxRecDepth 100000 in
theorem dropperlaw02_WireGentlest.calls (k : Nat) (A0 : Option Addr) (c0 : Nat) (l0 : List (S72)) (a1 : Int) (r : Bool) (w : World) (hr0 : Kd.C k72 w A0 l0.length l0) (hc0 : l0.length ≤ c0) (h : dropperlaw02_WireGentlest.f k l0 a1 = some r) (hT : r = true) :
    Calls Try.prog 6 #[.slice A0 l0.length c0, .int .i64 a1] w fun e w' => e = .returned (.bool r) ∧ Below w.heap.size w w' := by
  have HR0 := Aside0.mk hr0
  have HC0 := Aside0.mk hc0
  clear hr0 hc0
  have HB := Aside0.mk (Below.refl w.heap.size w)
  have H : ((dropperlaw02_Large.f k l0 ([] : List (List Int))).bind fun t101 => (if t101 = true then ((dropperlaw02_Awake.f k).bind fun t102 => (some t102)) else ((wire_Gentlest.f k l0 a1).bind fun bt103 => ((dropperref02_Gentlest.f k l0 a1).bind fun bt105 => (if bt103.1 = bt105.1 then (if bt103.2 = bt105.2 then ((dropperlaw02_Awake.f k).bind fun t107 => (some t107)) else (some false)) else (some false)))))) = some r := h
  clear h
  replace H := Option.bind_eq_some_iff.mp H
  obtain ⟨t101, A30, H⟩ := H
  replace H : (if t101 = true then ((dropperlaw02_Awake.f k).bind fun t102 => (some t102)) else ((wire_Gentlest.f k l0 a1).bind fun bt103 => ((dropperref02_Gentlest.f k l0 a1).bind fun bt105 => (if bt103.1 = bt105.1 then (if bt103.2 = bt105.2 then ((dropperlaw02_Awake.f k).bind fun t107 => (some t107)) else (some false)) else (some false))))) = some r := H
  have A3 := Aside0.mk A30
  clear A30
  by_cases c4 : t101 = true
  · subst c4
    have H1 : ((dropperlaw02_Awake.f k).bind fun t102 => (some t102)) = some r := by rw [if_pos rfl] at H; exact H
    clear H
    have H := H1
    clear H1
    replace H := Option.bind_eq_some_iff.mp H
    obtain ⟨t102, A50, H⟩ := H
    replace H : (some t102) = some r := H
    have A5 := Aside0.mk A50
    clear A50
    clear hT
    obtain rfl := Option.some.inj H
    go_enter Try.func6, Try.ntmps6
    go_wp2_with (first | ((with_reducible refine gate_callee (f := 13) rfl ?_); refine goesL_ (some 10) rfl rfl Try.func13 (by kernel_rfl) rfl #[.slice A0 l0.length c0, .slice none 0 0] rfl (by (try simp only [List.map_toArray, List.map_cons, List.map_nil]); first | done | rfl | (simp only [List.length_drop, List.length_take]; rfl)) ?_; (refine (dropperlaw02_Large.calls k _ _ l0 _ _ ([] : List (List Int)) true _ ?side1 ?side2 ?side3 ?side4 A3.out).mono ?_); (case side1 => repeat (first | exact HR0.out | (with_reducible refine Kd.C_alloc ?_ _) | (with_reducible refine Kd.C_drewN ?_ _) | (with_reducible refine Kd.C_drew ?_))); (case side2 => exact HC0.out); (case side3 => exact Kd.C_nil _ _); (case side4 => exact Nat.le_refl _); rintro e w' ⟨rfl, ⟨nd, rfl⟩⟩; refine ⟨_, rfl, ?_⟩) | ((with_reducible refine gate_callee (f := 14) rfl ?_); refine goesL_ (some 11) rfl rfl Try.func14 (by kernel_rfl) rfl #[] rfl (by (try simp only [List.map_toArray, List.map_cons, List.map_nil]); first | done | rfl | (simp only [List.length_drop, List.length_take]; rfl)) ?_; (with_reducible refine (dropperlaw02_Awake.calls k  t102 _ A5.out).mono ?_); rintro e w6 ⟨rfl, hb⟩; refine ⟨_, rfl, ?_⟩; have n0_ := Aside0.mk (below_step (by repeat (first | (with_reducible first | exact HB.out | apply below_alloc | apply pw_below_drewN | apply below_drew1) | exact HB.out)) hb); clear HB; have HB := n0_; clear n0_; (try clear hb); (try clear hb2); (try clear hk); (try clear hi)))
    go_ret
    exact ⟨by first | rfl | (simp [errW_none, errW_some] <;> rfl) | (simp [*, errW_none, errW_some] <;> rfl), by repeat (first | (with_reducible first | exact HB.out | apply below_alloc | apply pw_below_drewN | apply below_drew1) | exact HB.out)⟩
  replace c4 := Bool.eq_false_iff.mpr c4
  subst c4
  have H1 : ((wire_Gentlest.f k l0 a1).bind fun bt103 => ((dropperref02_Gentlest.f k l0 a1).bind fun bt105 => (if bt103.1 = bt105.1 then (if bt103.2 = bt105.2 then ((dropperlaw02_Awake.f k).bind fun t107 => (some t107)) else (some false)) else (some false)))) = some r := by rw [if_neg (show ¬ (false = true) by decide)] at H; exact H
  clear H
  have H := H1
  clear H1
  replace H := Option.bind_eq_some_iff.mp H
  obtain ⟨⟨t103, t104⟩, A70, H⟩ := H
  replace H : ((dropperref02_Gentlest.f k l0 a1).bind fun bt105 => (if t103 = bt105.1 then (if t104 = bt105.2 then ((dropperlaw02_Awake.f k).bind fun t107 => (some t107)) else (some false)) else (some false))) = some r := H
  have A7 := Aside0.mk A70
  clear A70
  replace H := Option.bind_eq_some_iff.mp H
  obtain ⟨⟨t105, t106⟩, A80, H⟩ := H
  replace H : (if t103 = t105 then (if t104 = t106 then ((dropperlaw02_Awake.f k).bind fun t107 => (some t107)) else (some false)) else (some false)) = some r := H
  have A8 := Aside0.mk A80
  clear A80
  by_cases c9 : t103 = t105
  rotate_left
  · rw [if_neg c9] at H
    have c9b0 : (t103 == t105) = false := beq_eq_false_iff_ne.mpr c9
    have c9b1 : (t103 != t105) = true := bne_iff_ne.mpr c9
    exact absurd (hT.symm.trans (Option.some.inj H).symm) (by decide)

  rw [if_pos c9] at H
  have c9b0 : (t103 == t105) = true := beq_iff_eq.mpr c9
  have c9b1 : (t103 != t105) = false := bne_eq_false_iff_eq.mpr c9
  clear c9
  by_cases c10 : t104 = t106
  rotate_left
  · rw [if_neg c10] at H
    have c10b0 : (t104 == t106) = false := beq_eq_false_iff_ne.mpr c10
    have c10b1 : (t104 != t106) = true := bne_iff_ne.mpr c10
    exact absurd (hT.symm.trans (Option.some.inj H).symm) (by decide)
  rw [if_pos c10] at H
  have c10b0 : (t104 == t106) = true := beq_iff_eq.mpr c10
  have c10b1 : (t104 != t106) = false := bne_eq_false_iff_eq.mpr c10
  clear c10
  replace H := Option.bind_eq_some_iff.mp H
  obtain ⟨t107, A110, H⟩ := H
  replace H : (some t107) = some r := H
  have A11 := Aside0.mk A110
  clear A110
  clear hT
  obtain rfl := Option.some.inj H
  go_enter Try.func6, Try.ntmps6
  go_wp2_with (first | ((with_reducible refine gate_callee (f := 13) rfl ?_); refine goesL_ (some 10) rfl rfl Try.func13 (by kernel_rfl) rfl #[.slice A0 l0.length c0, .slice none 0 0] rfl (by (try simp only [List.map_toArray, List.map_cons, List.map_nil]); first | done | rfl | (simp only [List.length_drop, List.length_take]; rfl)) ?_; (refine (dropperlaw02_Large.calls k _ _ l0 _ _ ([] : List (List Int)) false _ ?side1 ?side2 ?side3 ?side4 A3.out).mono ?_); (case side1 => repeat (first | exact HR0.out | (with_reducible refine Kd.C_alloc ?_ _) | (with_reducible refine Kd.C_drewN ?_ _) | (with_reducible refine Kd.C_drew ?_))); (case side2 => exact HC0.out); (case side3 => exact Kd.C_nil _ _); (case side4 => exact Nat.le_refl _); rintro e w' ⟨rfl, ⟨nd, rfl⟩⟩; refine ⟨_, rfl, ?_⟩) | ((with_reducible refine gate_callee (f := 30) rfl ?_); refine goesL_ (some 15) rfl rfl Try.func30 (by kernel_rfl) rfl #[.slice A0 l0.length c0, .int .i64 a1] rfl (by (try simp only [List.map_toArray, List.map_cons, List.map_nil]); first | done | rfl | (simp only [List.length_drop, List.length_take]; rfl)) ?_; (with_reducible refine (wire_Gentlest.calls k _ _ l0 a1 t103 t104 _ ?side1 ?side2 A7.out).mono ?_); (case side1 => repeat (first | exact HR0.out | (with_reducible refine Kd.C_alloc ?_ _) | (with_reducible refine Kd.C_drewN ?_ _) | (with_reducible refine Kd.C_drew ?_))); (case side2 => exact HC0.out); rintro e w12 ⟨rfl, hb⟩; refine ⟨_, rfl, ?_⟩; have n0_ := Aside0.mk (below_step (by repeat (first | (with_reducible first | exact HB.out | apply below_alloc | apply pw_below_drewN | apply below_drew1) | exact HB.out)) hb); clear HB; have HB := n0_; clear n0_; (try clear hb); (try clear hb2); (try clear hk); (try clear hi)) | ((with_reducible refine gate_callee (f := 31) rfl ?_); refine goesL_ (some 21) rfl rfl Try.func31 (by kernel_rfl) rfl #[.slice A0 l0.length c0, .int .i64 a1] rfl (by (try simp only [List.map_toArray, List.map_cons, List.map_nil]); first | done | rfl | (simp only [List.length_drop, List.length_take]; rfl)) ?_; (with_reducible refine (dropperref02_Gentlest.calls k _ _ l0 a1 t105 t106 _ ?side1 ?side2 A8.out).mono ?_); (case side1 => repeat (first | exact (Kd.C_below HR0.out HB.out) | (with_reducible refine Kd.C_alloc ?_ _) | (with_reducible refine Kd.C_drewN ?_ _) | (with_reducible refine Kd.C_drew ?_))); (case side2 => exact HC0.out); rintro e w13 ⟨rfl, hb⟩; refine ⟨_, rfl, ?_⟩; have n0_ := Aside0.mk (below_step (by repeat (first | (with_reducible first | exact HB.out | apply below_alloc | apply pw_below_drewN | apply below_drew1) | exact HB.out)) hb); clear HB; have HB := n0_; clear n0_; (try clear hb); (try clear hb2); (try clear hk); (try clear hi)) | (go_at_call 14; (with_reducible refine (dropperlaw02_Awake.calls k  t107 _ A11.out).mono ?_); rintro e w14 ⟨rfl, hb⟩; have n0_ := Aside0.mk (below_step (by repeat (first | (with_reducible first | exact HB.out | apply below_alloc | apply pw_below_drewN | apply below_drew1) | exact HB.out)) hb); clear HB; have HB := n0_; clear n0_; (try clear hb); (try clear hb2); (try clear hk); (try clear hi)))
  go_ret
  exact ⟨by first | rfl | (simp [errW_none, errW_some] <;> rfl) | (simp [*, errW_none, errW_some] <;> rfl), by repeat (first | (with_reducible first | exact HB.out | apply below_alloc | apply pw_below_drewN | apply below_drew1) | exact HB.out)⟩
end Go.Proofs.Ytciepmpadcpkbaa.G
