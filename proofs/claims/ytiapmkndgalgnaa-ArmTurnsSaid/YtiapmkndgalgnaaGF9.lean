-- Written by this session's driver (wip/tools/printmore.py) over the kit's print, with hand-written parts.
import Derived.Test.YtiapmkndgalgnaaGBase
import Derived.Test.YtiapmkndgalgnaaGF14
import Derived.Test.YtiapmkndgalgnaaGF15
import Derived.Test.YtiapmkndgalgnaaGF38
import Derived.Test.YtiapmkndgalgnaaGF39
import Derived.Test.YtiapmkndgalgnaaGF40
import Derived.Test.YtiapmkndgalgnaaGF41
import Derived.Test.YtiapmkndgalgnaaGF42
import Derived.Test.YtiapmkndgalgnaaGF43
import Derived.Test.YtiapmkndgalgnaaGF44
namespace Go.Proofs.Ytiapmkndgalgnaa.G
open Go.RowKit Go.Proofs.YtiapmkndgalgnaaW.PrintWords Go.Proofs.YtiapmkndgalgnaaW.PrintLast Go.Proofs.YtiapmkndgalgnaaW.PrintMore
attribute [local go_sem] max2_int min2_int max_two min_two max_three min_three max_four min_four   -- for this text's walks alone
set_option linter.unusedVariables false
set_option linter.unusedSimpArgs false

/-! ### dropperlaw03_ArmTurns: function 9 -/
mutual
def dropperlaw03_ArmTurns.j0 : Nat → List (S73) → Int → Bool → Option (Bool)
  | 0, _, _, _ => none
  | k + 1, x0, x1, x30 => if x30 = true then (some false) else ((arm_Turned.f k x0).bind fun bt112 => ((dropperref03_Turned.f k x0).bind fun bt116 => ((dropperlaw03_same.f k bt112.1 bt116.1).bind fun t120 => (if t120 = true then (dropperlaw03_ArmTurns.j1 k x0 x1 (bt112.2 != bt116.2)) else (dropperlaw03_ArmTurns.j1 k x0 x1 true)))))
def dropperlaw03_ArmTurns.j1 : Nat → List (S73) → Int → Bool → Option (Bool)
  | 0, _, _, _ => none
  | k + 1, x0, x1, x49 => if x49 = true then (some false) else ((arm_Widen.f k x0 x1).bind fun bt121 => ((dropperref03_Widen.f k x0 x1).bind fun bt125 => ((dropperlaw03_same.f k bt121.1 bt125.1).bind fun t129 => (if t129 = true then (if bt121.2 = bt125.2 then ((dropperlaw03_First.f k).bind fun t130 => (some t130)) else (some false)) else (some false)))))
end
def dropperlaw03_ArmTurns.f (k : Nat) (l0 : List (S73)) (a1 : Int) : Option (Bool) := (dropperlaw03_Long.f l0).bind fun t101 => (if t101 = true then ((dropperlaw03_First.f k).bind fun t102 => (some t102)) else ((arm_Mirror.f k l0).bind fun bt103 => ((dropperref03_Mirror.f k l0).bind fun bt107 => ((dropperlaw03_same.f k bt103.1 bt107.1).bind fun t111 => (if t111 = true then (dropperlaw03_ArmTurns.j0 k l0 a1 (bt103.2 != bt107.2)) else (dropperlaw03_ArmTurns.j0 k l0 a1 true))))))
theorem dropperlaw03_ArmTurns.mono_l : ∀ k, (∀ y0 y1 y2, LeO (dropperlaw03_ArmTurns.j0 k y0 y1 y2) (dropperlaw03_ArmTurns.j0 (k + 1) y0 y1 y2)) ∧ (∀ y0 y1 y2, LeO (dropperlaw03_ArmTurns.j1 k y0 y1 y2) (dropperlaw03_ArmTurns.j1 (k + 1) y0 y1 y2))
  | 0 => ⟨fun _ _ _ r h => by simp [dropperlaw03_ArmTurns.j0] at h, fun _ _ _ r h => by simp [dropperlaw03_ArmTurns.j1] at h⟩
  | k + 1 => by
    obtain ⟨ih0, ih1⟩ := dropperlaw03_ArmTurns.mono_l k
    refine ⟨?_, ?_⟩
    · intro y0 y1 y2
      unfold dropperlaw03_ArmTurns.j0
      repeat' first
      | (with_reducible exact ih0 _ _ _)
      | (with_reducible exact ih1 _ _ _)
      | (with_reducible exact arm_Mirror.mono _ _)
      | (with_reducible exact arm_Turned.mono _ _)
      | (with_reducible exact arm_Widen.mono _ _ _)
      | (with_reducible exact dropperlaw03_First.mono _)
      | (with_reducible exact dropperlaw03_same.mono _ _ _)
      | (with_reducible exact dropperref03_Mirror.mono _ _)
      | (with_reducible exact dropperref03_Turned.mono _ _)
      | (with_reducible exact dropperref03_Widen.mono _ _ _)
      | (with_reducible exact LeO.refl _)
      | (with_reducible exact LeO.none _)
      | (with_reducible refine LeO.ite ?_ ?_)
      | (with_reducible refine LeO.bind ?_ (fun _ => ?_))
      | exact ih0 _ _ _
      | exact ih1 _ _ _
      | exact arm_Mirror.mono _ _
      | exact arm_Turned.mono _ _
      | exact arm_Widen.mono _ _ _
      | exact dropperlaw03_First.mono _
      | exact dropperlaw03_same.mono _ _ _
      | exact dropperref03_Mirror.mono _ _
      | exact dropperref03_Turned.mono _ _
      | exact dropperref03_Widen.mono _ _ _
      | exact LeO.none _
      | refine LeO.ite ?_ ?_
      | refine LeO.bind ?_ (fun _ => ?_)
    · intro y0 y1 y2
      unfold dropperlaw03_ArmTurns.j1
      repeat' first
      | (with_reducible exact ih0 _ _ _)
      | (with_reducible exact ih1 _ _ _)
      | (with_reducible exact arm_Mirror.mono _ _)
      | (with_reducible exact arm_Turned.mono _ _)
      | (with_reducible exact arm_Widen.mono _ _ _)
      | (with_reducible exact dropperlaw03_First.mono _)
      | (with_reducible exact dropperlaw03_same.mono _ _ _)
      | (with_reducible exact dropperref03_Mirror.mono _ _)
      | (with_reducible exact dropperref03_Turned.mono _ _)
      | (with_reducible exact dropperref03_Widen.mono _ _ _)
      | (with_reducible exact LeO.refl _)
      | (with_reducible exact LeO.none _)
      | (with_reducible refine LeO.ite ?_ ?_)
      | (with_reducible refine LeO.bind ?_ (fun _ => ?_))
      | exact ih0 _ _ _
      | exact ih1 _ _ _
      | exact arm_Mirror.mono _ _
      | exact arm_Turned.mono _ _
      | exact arm_Widen.mono _ _ _
      | exact dropperlaw03_First.mono _
      | exact dropperlaw03_same.mono _ _ _
      | exact dropperref03_Mirror.mono _ _
      | exact dropperref03_Turned.mono _ _
      | exact dropperref03_Widen.mono _ _ _
      | exact LeO.none _
      | refine LeO.ite ?_ ?_
      | refine LeO.bind ?_ (fun _ => ?_)
theorem dropperlaw03_ArmTurns.mono : ∀ a0 a1 k, LeO (dropperlaw03_ArmTurns.f k a0 a1) (dropperlaw03_ArmTurns.f (k + 1) a0 a1) := by
  intro a0 a1 k
  obtain ⟨ih0, ih1⟩ := dropperlaw03_ArmTurns.mono_l k
  unfold dropperlaw03_ArmTurns.f
  repeat' first
      | (with_reducible exact ih0 _ _ _)
      | (with_reducible exact ih1 _ _ _)
      | (with_reducible exact arm_Mirror.mono _ _)
      | (with_reducible exact arm_Turned.mono _ _)
      | (with_reducible exact arm_Widen.mono _ _ _)
      | (with_reducible exact dropperlaw03_First.mono _)
      | (with_reducible exact dropperlaw03_same.mono _ _ _)
      | (with_reducible exact dropperref03_Mirror.mono _ _)
      | (with_reducible exact dropperref03_Turned.mono _ _)
      | (with_reducible exact dropperref03_Widen.mono _ _ _)
      | (with_reducible exact LeO.refl _)
      | (with_reducible exact LeO.none _)
      | (with_reducible refine LeO.ite ?_ ?_)
      | (with_reducible refine LeO.bind ?_ (fun _ => ?_))
      | exact ih0 _ _ _
      | exact ih1 _ _ _
      | exact arm_Mirror.mono _ _
      | exact arm_Turned.mono _ _
      | exact arm_Widen.mono _ _ _
      | exact dropperlaw03_First.mono _
      | exact dropperlaw03_same.mono _ _ _
      | exact dropperref03_Mirror.mono _ _
      | exact dropperref03_Turned.mono _ _
      | exact dropperref03_Widen.mono _ _ _
      | exact LeO.none _
      | refine LeO.ite ?_ ?_
      | refine LeO.bind ?_ (fun _ => ?_)
set_option maxHeartbeats 8000000 in
set_option maxRecDepth 100000 in
theorem dropperlaw03_ArmTurns.calls (k : Nat) (A0 : Option Addr) (c0 : Nat) (l0 : List (S73)) (a1 : Int) (r : Bool) (w : World) (hr0 : Kd.C k73 w A0 l0.length l0) (hc0 : l0.length ≤ c0) (h : dropperlaw03_ArmTurns.f k l0 a1 = some r) (hT : r = true) :
    Calls Try.prog 9 #[.slice A0 l0.length c0, .int .i64 a1] w fun e w' => e = .returned (.bool r) ∧ Below w.heap.size w w' := by
  have HR0 := Aside0.mk hr0
  have HC0 := Aside0.mk hc0
  clear hr0 hc0
  have HB := Aside0.mk (Below.refl w.heap.size w)
  have H : ((dropperlaw03_Long.f l0).bind fun t101 => (if t101 = true then ((dropperlaw03_First.f k).bind fun t102 => (some t102)) else ((arm_Mirror.f k l0).bind fun bt103 => ((dropperref03_Mirror.f k l0).bind fun bt107 => ((dropperlaw03_same.f k bt103.1 bt107.1).bind fun t111 => (if t111 = true then (dropperlaw03_ArmTurns.j0 k l0 a1 (bt103.2 != bt107.2)) else (dropperlaw03_ArmTurns.j0 k l0 a1 true))))))) = some r := h
  clear h
  replace H := Option.bind_eq_some_iff.mp H
  obtain ⟨t101, A30, H⟩ := H
  replace H : (if t101 = true then ((dropperlaw03_First.f k).bind fun t102 => (some t102)) else ((arm_Mirror.f k l0).bind fun bt103 => ((dropperref03_Mirror.f k l0).bind fun bt107 => ((dropperlaw03_same.f k bt103.1 bt107.1).bind fun t111 => (if t111 = true then (dropperlaw03_ArmTurns.j0 k l0 a1 (bt103.2 != bt107.2)) else (dropperlaw03_ArmTurns.j0 k l0 a1 true)))))) = some r := H
  have A3 := Aside0.mk A30
  clear A30
  by_cases c4 : t101 = true
  · subst c4
    have H1 : ((dropperlaw03_First.f k).bind fun t102 => (some t102)) = some r := by rw [if_pos rfl] at H; exact H
    clear H
    have H := H1
    clear H1
    replace H := Option.bind_eq_some_iff.mp H
    obtain ⟨t102, A50, H⟩ := H
    replace H : (some t102) = some r := H
    have A5 := Aside0.mk A50
    clear A50
    clear hT
    obtain rfl := Option.some.inj H
    go_enter Try.func9, Try.ntmps9
    go_wp2_with (first | ((with_reducible refine gate_callee (f := 15) rfl ?_); refine goesL_ (some 10) rfl rfl Try.func15 (by kernel_rfl) rfl #[.slice A0 l0.length c0] rfl (by (try simp only [List.map_toArray, List.map_cons, List.map_nil]); first | done | rfl | (simp only [List.length_drop, List.length_take]; rfl)) ?_; (with_reducible refine (dropperlaw03_Long.calls _ _ l0 true _ ?side1 ?side2 A3.out).mono ?_); (case side1 => repeat (first | exact HR0.out | (with_reducible refine Kd.C_alloc ?_ _) | (with_reducible refine Kd.C_drewN ?_ _) | (with_reducible refine Kd.C_drew ?_))); (case side2 => exact HC0.out); rintro e w' ⟨rfl, ⟨nd, rfl⟩⟩; refine ⟨_, rfl, ?_⟩) | ((with_reducible refine gate_callee (f := 14) rfl ?_); refine goesL_ (some 11) rfl rfl Try.func14 (by kernel_rfl) rfl #[] rfl (by (try simp only [List.map_toArray, List.map_cons, List.map_nil]); first | done | rfl | (simp only [List.length_drop, List.length_take]; rfl)) ?_; (with_reducible refine (dropperlaw03_First.calls k  t102 _ A5.out).mono ?_); rintro e w6 ⟨rfl, hb⟩; refine ⟨_, rfl, ?_⟩; have n0_ := Aside0.mk (below_step (by repeat (first | (with_reducible first | exact HB.out | apply below_alloc | apply pw_below_drewN | apply below_drew1) | exact HB.out)) hb); clear HB; have HB := n0_; clear n0_; (try clear hb); (try clear hb2); (try clear hk); (try clear hi)))
    go_ret
    exact ⟨by first | rfl | (simp [errW_none, errW_some] <;> rfl) | (simp [*, errW_none, errW_some] <;> rfl), by repeat (first | (with_reducible first | exact HB.out | apply below_alloc | apply pw_below_drewN | apply below_drew1) | exact HB.out)⟩
  replace c4 := Bool.eq_false_iff.mpr c4
  subst c4
  have H1 : ((arm_Mirror.f k l0).bind fun bt103 => ((dropperref03_Mirror.f k l0).bind fun bt107 => ((dropperlaw03_same.f k bt103.1 bt107.1).bind fun t111 => (if t111 = true then (dropperlaw03_ArmTurns.j0 k l0 a1 (bt103.2 != bt107.2)) else (dropperlaw03_ArmTurns.j0 k l0 a1 true))))) = some r := by rw [if_neg (show ¬ (false = true) by decide)] at H; exact H
  clear H
  have H := H1
  clear H1
  replace H := Option.bind_eq_some_iff.mp H
  obtain ⟨⟨t103, t104⟩, A70, H⟩ := H
  replace H : ((dropperref03_Mirror.f k l0).bind fun bt107 => ((dropperlaw03_same.f k t103 bt107.1).bind fun t111 => (if t111 = true then (dropperlaw03_ArmTurns.j0 k l0 a1 (t104 != bt107.2)) else (dropperlaw03_ArmTurns.j0 k l0 a1 true)))) = some r := H
  have A7 := Aside0.mk A70
  clear A70
  replace H := Option.bind_eq_some_iff.mp H
  obtain ⟨⟨t107, t108⟩, A80, H⟩ := H
  replace H : ((dropperlaw03_same.f k t103 t107).bind fun t111 => (if t111 = true then (dropperlaw03_ArmTurns.j0 k l0 a1 (t104 != t108)) else (dropperlaw03_ArmTurns.j0 k l0 a1 true))) = some r := H
  have A8 := Aside0.mk A80
  clear A80
  have HC9 := Aside0.mk H
  clear H
  go_enter Try.func9, Try.ntmps9
  go_upto_region 5 with (first | ((with_reducible refine gate_callee (f := 15) rfl ?_); refine goesL_ (some 10) rfl rfl Try.func15 (by kernel_rfl) rfl #[.slice A0 l0.length c0] rfl (by (try simp only [List.map_toArray, List.map_cons, List.map_nil]); first | done | rfl | (simp only [List.length_drop, List.length_take]; rfl)) ?_; (with_reducible refine (dropperlaw03_Long.calls _ _ l0 false _ ?side1 ?side2 A3.out).mono ?_); (case side1 => repeat (first | exact HR0.out | (with_reducible refine Kd.C_alloc ?_ _) | (with_reducible refine Kd.C_drewN ?_ _) | (with_reducible refine Kd.C_drew ?_))); (case side2 => exact HC0.out); rintro e w' ⟨rfl, ⟨nd, rfl⟩⟩; refine ⟨_, rfl, ?_⟩) | ((with_reducible refine gate_callee (f := 39) rfl ?_); refine goesL_ (some 14) rfl rfl Try.func39 (by kernel_rfl) rfl #[.slice A0 l0.length c0] rfl (by (try simp only [List.map_toArray, List.map_cons, List.map_nil]); first | done | rfl | (simp only [List.length_drop, List.length_take]; rfl)) ?_; (with_reducible refine (arm_Mirror.calls k _ _ l0 t103 t104 _ ?side1 ?side2 A7.out).mono ?_); (case side1 => repeat (first | exact HR0.out | (with_reducible refine Kd.C_alloc ?_ _) | (with_reducible refine Kd.C_drewN ?_ _) | (with_reducible refine Kd.C_drew ?_))); (case side2 => exact HC0.out); rintro e w10 ⟨v105, rfl, ho0, hb⟩; refine ⟨_, rfl, ?_⟩; have n0_ := Aside0.mk (Kd.R_lower ho0 (below_size (by repeat (first | (with_reducible first | exact HB.out | apply below_alloc | apply pw_below_drewN | apply below_drew1) | exact HB.out)))); have n1_ := Aside0.mk (below_step (by repeat (first | (with_reducible first | exact HB.out | apply below_alloc | apply pw_below_drewN | apply below_drew1) | exact HB.out)) hb); clear HB; have HO106 := n0_; have HB := n1_; clear n0_ n1_; (try clear hb); (try clear hb2); (try clear hk); (try clear hi); (try clear ho0)) | ((with_reducible refine gate_callee (f := 40) rfl ?_); refine goesL_ (some 19) rfl rfl Try.func40 (by kernel_rfl) rfl #[.slice A0 l0.length c0] rfl (by (try simp only [List.map_toArray, List.map_cons, List.map_nil]); first | done | rfl | (simp only [List.length_drop, List.length_take]; rfl)) ?_; (with_reducible refine (dropperref03_Mirror.calls k _ _ l0 t107 t108 _ ?side1 ?side2 A8.out).mono ?_); (case side1 => repeat (first | exact (Kd.C_below HR0.out HB.out) | (with_reducible refine Kd.C_alloc ?_ _) | (with_reducible refine Kd.C_drewN ?_ _) | (with_reducible refine Kd.C_drew ?_))); (case side2 => exact HC0.out); rintro e w11 ⟨v109, rfl, ho0, hb⟩; refine ⟨_, rfl, ?_⟩; have n0_ := Aside0.mk (Kd.R_elder' (by (with_reducible repeat (first | apply Kd.R_alloc | apply Kd.R_drewN | apply Kd.R_drew)); exact HO106.out) (Kd.R_base ho0) hb); have n1_ := Aside0.mk (Kd.R_lower (Kd.R_new' ho0 (Kd.R_lt (by (with_reducible repeat (first | apply Kd.R_alloc | apply Kd.R_drewN | apply Kd.R_drew)); exact HO106.out))) (below_size (by repeat (first | (with_reducible first | exact HB.out | apply below_alloc | apply pw_below_drewN | apply below_drew1) | exact HB.out)))); have n2_ := Aside0.mk (below_step (by repeat (first | (with_reducible first | exact HB.out | apply below_alloc | apply pw_below_drewN | apply below_drew1) | exact HB.out)) hb); clear HO106; clear HB; have HO106 := n0_; have HO110 := n1_; have HB := n2_; clear n0_ n1_ n2_; (try clear hb); (try clear hb2); (try clear hk); (try clear hi); (try clear ho0)))
  (try simp only [Act.put, List.setIfInBounds_toArray, List.set_cons_zero, List.set_cons_succ])
  go_cut [30] (fun v30 wc => ∃ (kq : Nat) (x30_8 : Bool), v30 = .bool x30_8 ∧ Aside0 (dropperlaw03_ArmTurns.j0 kq l0 a1 x30_8 = some r) ∧ Aside0 (kq ≤ k) ∧ Aside0 (Below w.heap.size w wc))
  case first =>
    have H := HC9.out
    clear HC9
    replace H := Option.bind_eq_some_iff.mp H
    obtain ⟨t111, A120, H⟩ := H
    replace H : (if t111 = true then (dropperlaw03_ArmTurns.j0 k l0 a1 (t104 != t108)) else (dropperlaw03_ArmTurns.j0 k l0 a1 true)) = some r := H
    have A12 := Aside0.mk A120
    clear A120
    by_cases c13 : t111 = true
    · subst c13
      have H1 : (dropperlaw03_ArmTurns.j0 k l0 a1 (t104 != t108)) = some r := by rw [if_pos rfl] at H; exact H
      clear H
      have H := H1
      clear H1
      have H' := Aside0.mk H
      clear H
      obtain ⟨Ao14, co14, eo14⟩ := Kd.R_slice HO106.out
      subst eo14
      obtain ⟨Ao15, co15, eo15⟩ := Kd.R_slice HO110.out
      subst eo15
      go_wp2_with (first | ((with_reducible refine gate_callee (f := 38) rfl ?_); refine goesL_ (some 24) rfl rfl Try.func38 (by kernel_rfl) rfl #[.slice Ao14 t103.length co14, .slice Ao15 t107.length co15] rfl (by (try simp only [List.map_toArray, List.map_cons, List.map_nil]); first | done | rfl | (simp only [List.length_drop, List.length_take]; rfl)) ?_; (with_reducible refine (dropperlaw03_same.calls k _ _ t103 _ _ t107 true _ ?side1 ?side2 ?side3 ?side4 A12.out).mono ?_); (case side1 => repeat (first | exact (Kd.R_reads' HO106.out).2.2 | (with_reducible refine Kd.C_alloc ?_ _) | (with_reducible refine Kd.C_drewN ?_ _) | (with_reducible refine Kd.C_drew ?_))); (case side2 => exact (Kd.R_reads' HO106.out).2.1); (case side3 => repeat (first | exact (Kd.R_reads' HO110.out).2.2 | (with_reducible refine Kd.C_alloc ?_ _) | (with_reducible refine Kd.C_drewN ?_ _) | (with_reducible refine Kd.C_drew ?_))); (case side4 => exact (Kd.R_reads' HO110.out).2.1); rintro e w' ⟨rfl, ⟨nd, rfl⟩⟩; refine ⟨_, rfl, ?_⟩))
      go_meet
      case rel => exact ⟨_, ((t104 != t108)), (by first | rfl | (simp; done) | (simp [*]; done)), H', ⟨by first | omega | exact Nat.le_refl _⟩, ⟨by repeat (first | (with_reducible first | exact HB.out | apply below_alloc | apply pw_below_drewN | apply below_drew1) | exact HB.out)⟩⟩
    replace c13 := Bool.eq_false_iff.mpr c13
    subst c13
    have H1 : (dropperlaw03_ArmTurns.j0 k l0 a1 true) = some r := by rw [if_neg (show ¬ (false = true) by decide)] at H; exact H
    clear H
    have H := H1
    clear H1
    have H' := Aside0.mk H
    clear H
    obtain ⟨Ao16, co16, eo16⟩ := Kd.R_slice HO106.out
    subst eo16
    obtain ⟨Ao17, co17, eo17⟩ := Kd.R_slice HO110.out
    subst eo17
    go_wp2_with (first | ((with_reducible refine gate_callee (f := 38) rfl ?_); refine goesL_ (some 24) rfl rfl Try.func38 (by kernel_rfl) rfl #[.slice Ao16 t103.length co16, .slice Ao17 t107.length co17] rfl (by (try simp only [List.map_toArray, List.map_cons, List.map_nil]); first | done | rfl | (simp only [List.length_drop, List.length_take]; rfl)) ?_; (with_reducible refine (dropperlaw03_same.calls k _ _ t103 _ _ t107 false _ ?side1 ?side2 ?side3 ?side4 A12.out).mono ?_); (case side1 => repeat (first | exact (Kd.R_reads' HO106.out).2.2 | (with_reducible refine Kd.C_alloc ?_ _) | (with_reducible refine Kd.C_drewN ?_ _) | (with_reducible refine Kd.C_drew ?_))); (case side2 => exact (Kd.R_reads' HO106.out).2.1); (case side3 => repeat (first | exact (Kd.R_reads' HO110.out).2.2 | (with_reducible refine Kd.C_alloc ?_ _) | (with_reducible refine Kd.C_drewN ?_ _) | (with_reducible refine Kd.C_drew ?_))); (case side4 => exact (Kd.R_reads' HO110.out).2.1); rintro e w' ⟨rfl, ⟨nd, rfl⟩⟩; refine ⟨_, rfl, ?_⟩))
    go_meet
    case rel => exact ⟨_, (true), (by first | rfl | (simp; done) | (simp [*]; done)), H', ⟨by first | omega | exact Nat.le_refl _⟩, ⟨by repeat (first | (with_reducible first | exact HB.out | apply below_alloc | apply pw_below_drewN | apply below_drew1) | exact HB.out)⟩⟩
  case rest =>
    clear HC9
    try clear c1
    try clear p2
    try clear c3
    try clear c4
    try clear c9
    try clear c13
    try clear c14
    try clear c15
    obtain ⟨kq, x30_8, rfl, HA, HJ8, HB⟩ := hcut
    cases kq with
    | zero => exact absurd HA.out (by simp [dropperlaw03_ArmTurns.j0])
    | succ kj8 =>
      have H := HA.out
      clear HA
      simp only [dropperlaw03_ArmTurns.j0] at H
      by_cases c18 : x30_8 = true
      · subst c18
        have H1 : (some false) = some r := by rw [if_pos rfl] at H; exact H
        clear H
        have H := H1
        clear H1
        exact absurd (hT.symm.trans (Option.some.inj H).symm) (by decide)
      replace c18 := Bool.eq_false_iff.mpr c18
      subst c18
      have H1 : ((arm_Turned.f kj8 l0).bind fun bt112 => ((dropperref03_Turned.f kj8 l0).bind fun bt116 => ((dropperlaw03_same.f kj8 bt112.1 bt116.1).bind fun t120 => (if t120 = true then (dropperlaw03_ArmTurns.j1 kj8 l0 a1 (bt112.2 != bt116.2)) else (dropperlaw03_ArmTurns.j1 kj8 l0 a1 true))))) = some r := by rw [if_neg (show ¬ (false = true) by decide)] at H; exact H
      clear H
      have H := H1
      clear H1
      replace H := Option.bind_eq_some_iff.mp H
      obtain ⟨⟨t112, t113⟩, A190, H⟩ := H
      replace H : ((dropperref03_Turned.f kj8 l0).bind fun bt116 => ((dropperlaw03_same.f kj8 t112 bt116.1).bind fun t120 => (if t120 = true then (dropperlaw03_ArmTurns.j1 kj8 l0 a1 (t113 != bt116.2)) else (dropperlaw03_ArmTurns.j1 kj8 l0 a1 true)))) = some r := H
      have A19 := Aside0.mk A190
      clear A190
      replace H := Option.bind_eq_some_iff.mp H
      obtain ⟨⟨t116, t117⟩, A200, H⟩ := H
      replace H : ((dropperlaw03_same.f kj8 t112 t116).bind fun t120 => (if t120 = true then (dropperlaw03_ArmTurns.j1 kj8 l0 a1 (t113 != t117)) else (dropperlaw03_ArmTurns.j1 kj8 l0 a1 true))) = some r := H
      have A20 := Aside0.mk A200
      clear A200
      have HC21 := Aside0.mk H
      clear H
      go_upto_region 9 with (first | ((with_reducible refine gate_callee (f := 41) rfl ?_); refine goesL_ (some 33) rfl rfl Try.func41 (by kernel_rfl) rfl #[.slice A0 l0.length c0] rfl (by (try simp only [List.map_toArray, List.map_cons, List.map_nil]); first | done | rfl | (simp only [List.length_drop, List.length_take]; rfl)) ?_; (with_reducible refine (arm_Turned.calls kj8 _ _ l0 t112 t113 _ ?side1 ?side2 A19.out).mono ?_); (case side1 => repeat (first | exact (Kd.C_below HR0.out HB.out) | (with_reducible refine Kd.C_alloc ?_ _) | (with_reducible refine Kd.C_drewN ?_ _) | (with_reducible refine Kd.C_drew ?_))); (case side2 => exact HC0.out); rintro e w22 ⟨v114, rfl, ho0, hb⟩; refine ⟨_, rfl, ?_⟩; have n0_ := Aside0.mk (Kd.R_lower ho0 (below_size (by repeat (first | (with_reducible first | exact HB.out | apply below_alloc | apply pw_below_drewN | apply below_drew1) | exact HB.out)))); have n1_ := Aside0.mk (below_step (by repeat (first | (with_reducible first | exact HB.out | apply below_alloc | apply pw_below_drewN | apply below_drew1) | exact HB.out)) hb); clear HB; have HO115 := n0_; have HB := n1_; clear n0_ n1_; (try clear hb); (try clear hb2); (try clear hk); (try clear hi); (try clear ho0)) | ((with_reducible refine gate_callee (f := 42) rfl ?_); refine goesL_ (some 38) rfl rfl Try.func42 (by kernel_rfl) rfl #[.slice A0 l0.length c0] rfl (by (try simp only [List.map_toArray, List.map_cons, List.map_nil]); first | done | rfl | (simp only [List.length_drop, List.length_take]; rfl)) ?_; (with_reducible refine (dropperref03_Turned.calls kj8 _ _ l0 t116 t117 _ ?side1 ?side2 A20.out).mono ?_); (case side1 => repeat (first | exact (Kd.C_below HR0.out HB.out) | (with_reducible refine Kd.C_alloc ?_ _) | (with_reducible refine Kd.C_drewN ?_ _) | (with_reducible refine Kd.C_drew ?_))); (case side2 => exact HC0.out); rintro e w23 ⟨v118, rfl, ho0, hb⟩; refine ⟨_, rfl, ?_⟩; have n0_ := Aside0.mk (Kd.R_elder' (by (with_reducible repeat (first | apply Kd.R_alloc | apply Kd.R_drewN | apply Kd.R_drew)); exact HO115.out) (Kd.R_base ho0) hb); have n1_ := Aside0.mk (Kd.R_lower (Kd.R_new' ho0 (Kd.R_lt (by (with_reducible repeat (first | apply Kd.R_alloc | apply Kd.R_drewN | apply Kd.R_drew)); exact HO115.out))) (below_size (by repeat (first | (with_reducible first | exact HB.out | apply below_alloc | apply pw_below_drewN | apply below_drew1) | exact HB.out)))); have n2_ := Aside0.mk (below_step (by repeat (first | (with_reducible first | exact HB.out | apply below_alloc | apply pw_below_drewN | apply below_drew1) | exact HB.out)) hb); clear HO115; clear HB; have HO115 := n0_; have HO119 := n1_; have HB := n2_; clear n0_ n1_ n2_; (try clear hb); (try clear hb2); (try clear hk); (try clear hi); (try clear ho0)))
      (try simp only [Act.put, List.setIfInBounds_toArray, List.set_cons_zero, List.set_cons_succ])
      go_cut [49] (fun v49 wc => ∃ (kq : Nat) (x49_20 : Bool), v49 = .bool x49_20 ∧ Aside0 (dropperlaw03_ArmTurns.j1 kq l0 a1 x49_20 = some r) ∧ Aside0 (kq ≤ kj8) ∧ Aside0 (Below w.heap.size w wc))
      case first =>
        have H := HC21.out
        clear HC21
        replace H := Option.bind_eq_some_iff.mp H
        obtain ⟨t120, A240, H⟩ := H
        replace H : (if t120 = true then (dropperlaw03_ArmTurns.j1 kj8 l0 a1 (t113 != t117)) else (dropperlaw03_ArmTurns.j1 kj8 l0 a1 true)) = some r := H
        have A24 := Aside0.mk A240
        clear A240
        by_cases c25 : t120 = true
        · subst c25
          have H1 : (dropperlaw03_ArmTurns.j1 kj8 l0 a1 (t113 != t117)) = some r := by rw [if_pos rfl] at H; exact H
          clear H
          have H := H1
          clear H1
          have H' := Aside0.mk H
          clear H
          obtain ⟨Ao26, co26, eo26⟩ := Kd.R_slice HO115.out
          subst eo26
          obtain ⟨Ao27, co27, eo27⟩ := Kd.R_slice HO119.out
          subst eo27
          go_wp2_with (first | ((with_reducible refine gate_callee (f := 38) rfl ?_); refine goesL_ (some 43) rfl rfl Try.func38 (by kernel_rfl) rfl #[.slice Ao26 t112.length co26, .slice Ao27 t116.length co27] rfl (by (try simp only [List.map_toArray, List.map_cons, List.map_nil]); first | done | rfl | (simp only [List.length_drop, List.length_take]; rfl)) ?_; (with_reducible refine (dropperlaw03_same.calls kj8 _ _ t112 _ _ t116 true _ ?side1 ?side2 ?side3 ?side4 A24.out).mono ?_); (case side1 => repeat (first | exact (Kd.R_reads' HO115.out).2.2 | (with_reducible refine Kd.C_alloc ?_ _) | (with_reducible refine Kd.C_drewN ?_ _) | (with_reducible refine Kd.C_drew ?_))); (case side2 => exact (Kd.R_reads' HO115.out).2.1); (case side3 => repeat (first | exact (Kd.R_reads' HO119.out).2.2 | (with_reducible refine Kd.C_alloc ?_ _) | (with_reducible refine Kd.C_drewN ?_ _) | (with_reducible refine Kd.C_drew ?_))); (case side4 => exact (Kd.R_reads' HO119.out).2.1); rintro e w' ⟨rfl, ⟨nd, rfl⟩⟩; refine ⟨_, rfl, ?_⟩))
          go_meet
          case rel => exact ⟨_, ((t113 != t117)), (by first | rfl | (simp; done) | (simp [*]; done)), H', ⟨by have := HJ8.out; first | omega | exact Nat.le_refl _⟩, ⟨by repeat (first | (with_reducible first | exact HB.out | apply below_alloc | apply pw_below_drewN | apply below_drew1) | exact HB.out)⟩⟩
        replace c25 := Bool.eq_false_iff.mpr c25
        subst c25
        have H1 : (dropperlaw03_ArmTurns.j1 kj8 l0 a1 true) = some r := by rw [if_neg (show ¬ (false = true) by decide)] at H; exact H
        clear H
        have H := H1
        clear H1
        have H' := Aside0.mk H
        clear H
        obtain ⟨Ao28, co28, eo28⟩ := Kd.R_slice HO115.out
        subst eo28
        obtain ⟨Ao29, co29, eo29⟩ := Kd.R_slice HO119.out
        subst eo29
        go_wp2_with (first | ((with_reducible refine gate_callee (f := 38) rfl ?_); refine goesL_ (some 43) rfl rfl Try.func38 (by kernel_rfl) rfl #[.slice Ao28 t112.length co28, .slice Ao29 t116.length co29] rfl (by (try simp only [List.map_toArray, List.map_cons, List.map_nil]); first | done | rfl | (simp only [List.length_drop, List.length_take]; rfl)) ?_; (with_reducible refine (dropperlaw03_same.calls kj8 _ _ t112 _ _ t116 false _ ?side1 ?side2 ?side3 ?side4 A24.out).mono ?_); (case side1 => repeat (first | exact (Kd.R_reads' HO115.out).2.2 | (with_reducible refine Kd.C_alloc ?_ _) | (with_reducible refine Kd.C_drewN ?_ _) | (with_reducible refine Kd.C_drew ?_))); (case side2 => exact (Kd.R_reads' HO115.out).2.1); (case side3 => repeat (first | exact (Kd.R_reads' HO119.out).2.2 | (with_reducible refine Kd.C_alloc ?_ _) | (with_reducible refine Kd.C_drewN ?_ _) | (with_reducible refine Kd.C_drew ?_))); (case side4 => exact (Kd.R_reads' HO119.out).2.1); rintro e w' ⟨rfl, ⟨nd, rfl⟩⟩; refine ⟨_, rfl, ?_⟩))
        go_meet
        case rel => exact ⟨_, (true), (by first | rfl | (simp; done) | (simp [*]; done)), H', ⟨by have := HJ8.out; first | omega | exact Nat.le_refl _⟩, ⟨by repeat (first | (with_reducible first | exact HB.out | apply below_alloc | apply pw_below_drewN | apply below_drew1) | exact HB.out)⟩⟩
      case rest =>
        clear HC21
        try clear c1
        try clear c2
        try clear p2
        try clear c3
        try clear c4
        try clear c9
        try clear c13
        try clear c14
        try clear c15
        try clear c18
        try clear c25
        try clear p2
        obtain ⟨kq, x49_20, rfl, HA, HJ20, HB⟩ := hcut
        cases kq with
        | zero => exact absurd HA.out (by simp [dropperlaw03_ArmTurns.j1])
        | succ kj20 =>
          have H := HA.out
          clear HA
          simp only [dropperlaw03_ArmTurns.j1] at H
          by_cases c30 : x49_20 = true
          · subst c30
            have H1 : (some false) = some r := by rw [if_pos rfl] at H; exact H
            clear H
            have H := H1
            clear H1
            exact absurd (hT.symm.trans (Option.some.inj H).symm) (by decide)
          replace c30 := Bool.eq_false_iff.mpr c30
          subst c30
          have H1 : ((arm_Widen.f kj20 l0 a1).bind fun bt121 => ((dropperref03_Widen.f kj20 l0 a1).bind fun bt125 => ((dropperlaw03_same.f kj20 bt121.1 bt125.1).bind fun t129 => (if t129 = true then (if bt121.2 = bt125.2 then ((dropperlaw03_First.f kj20).bind fun t130 => (some t130)) else (some false)) else (some false))))) = some r := by rw [if_neg (show ¬ (false = true) by decide)] at H; exact H
          clear H
          have H := H1
          clear H1
          replace H := Option.bind_eq_some_iff.mp H
          obtain ⟨⟨t121, t122⟩, A310, H⟩ := H
          replace H : ((dropperref03_Widen.f kj20 l0 a1).bind fun bt125 => ((dropperlaw03_same.f kj20 t121 bt125.1).bind fun t129 => (if t129 = true then (if t122 = bt125.2 then ((dropperlaw03_First.f kj20).bind fun t130 => (some t130)) else (some false)) else (some false)))) = some r := H
          have A31 := Aside0.mk A310
          clear A310
          replace H := Option.bind_eq_some_iff.mp H
          obtain ⟨⟨t125, t126⟩, A320, H⟩ := H
          replace H : ((dropperlaw03_same.f kj20 t121 t125).bind fun t129 => (if t129 = true then (if t122 = t126 then ((dropperlaw03_First.f kj20).bind fun t130 => (some t130)) else (some false)) else (some false))) = some r := H
          have A32 := Aside0.mk A320
          clear A320
          replace H := Option.bind_eq_some_iff.mp H
          obtain ⟨t129, A330, H⟩ := H
          replace H : (if t129 = true then (if t122 = t126 then ((dropperlaw03_First.f kj20).bind fun t130 => (some t130)) else (some false)) else (some false)) = some r := H
          have A33 := Aside0.mk A330
          clear A330
          by_cases c34 : t129 = true
          rotate_left
          · replace c34 := Bool.eq_false_iff.mpr c34
            subst c34
            have H1 : (some false) = some r := by rw [if_neg (show ¬ (false = true) by decide)] at H; exact H
            clear H
            have H := H1
            clear H1
            exact absurd (hT.symm.trans (Option.some.inj H).symm) (by decide)

          subst c34
          have H1 : (if t122 = t126 then ((dropperlaw03_First.f kj20).bind fun t130 => (some t130)) else (some false)) = some r := by rw [if_pos rfl] at H; exact H
          clear H
          have H := H1
          clear H1
          by_cases c35 : t122 = t126
          rotate_left
          · rw [if_neg c35] at H
            have c35b0 : (t122 == t126) = false := beq_eq_false_iff_ne.mpr c35
            have c35b1 : (t122 != t126) = true := bne_iff_ne.mpr c35
            exact absurd (hT.symm.trans (Option.some.inj H).symm) (by decide)
          rw [if_pos c35] at H
          have c35b0 : (t122 == t126) = true := beq_iff_eq.mpr c35
          have c35b1 : (t122 != t126) = false := bne_eq_false_iff_eq.mpr c35
          clear c35
          replace H := Option.bind_eq_some_iff.mp H
          obtain ⟨t130, A360, H⟩ := H
          replace H : (some t130) = some r := H
          have A36 := Aside0.mk A360
          clear A360
          clear hT
          obtain rfl := Option.some.inj H
          go_wp2_with (first | ((with_reducible refine gate_callee (f := 43) rfl ?_); refine goesL_ (some 53) rfl rfl Try.func43 (by kernel_rfl) rfl #[.slice A0 l0.length c0, .int .i64 a1] rfl (by (try simp only [List.map_toArray, List.map_cons, List.map_nil]); first | done | rfl | (simp only [List.length_drop, List.length_take]; rfl)) ?_; (with_reducible refine (arm_Widen.calls kj20 _ _ l0 a1 t121 t122 _ ?side1 ?side2 A31.out).mono ?_); (case side1 => repeat (first | exact (Kd.C_below HR0.out HB.out) | (with_reducible refine Kd.C_alloc ?_ _) | (with_reducible refine Kd.C_drewN ?_ _) | (with_reducible refine Kd.C_drew ?_))); (case side2 => exact HC0.out); rintro e w37 ⟨v123, rfl, ho0, hb⟩; refine ⟨_, rfl, ?_⟩; have n0_ := Aside0.mk (Kd.R_lower ho0 (below_size (by repeat (first | (with_reducible first | exact HB.out | apply below_alloc | apply pw_below_drewN | apply below_drew1) | exact HB.out)))); have n1_ := Aside0.mk (below_step (by repeat (first | (with_reducible first | exact HB.out | apply below_alloc | apply pw_below_drewN | apply below_drew1) | exact HB.out)) hb); clear HB; have HO124 := n0_; have HB := n1_; clear n0_ n1_; (try clear hb); (try clear hb2); (try clear hk); (try clear hi); (try clear ho0)) | ((with_reducible refine gate_callee (f := 44) rfl ?_); refine goesL_ (some 59) rfl rfl Try.func44 (by kernel_rfl) rfl #[.slice A0 l0.length c0, .int .i64 a1] rfl (by (try simp only [List.map_toArray, List.map_cons, List.map_nil]); first | done | rfl | (simp only [List.length_drop, List.length_take]; rfl)) ?_; (with_reducible refine (dropperref03_Widen.calls kj20 _ _ l0 a1 t125 t126 _ ?side1 ?side2 A32.out).mono ?_); (case side1 => repeat (first | exact (Kd.C_below HR0.out HB.out) | (with_reducible refine Kd.C_alloc ?_ _) | (with_reducible refine Kd.C_drewN ?_ _) | (with_reducible refine Kd.C_drew ?_))); (case side2 => exact HC0.out); rintro e w38 ⟨v127, rfl, ho0, hb⟩; refine ⟨_, rfl, ?_⟩; have n0_ := Aside0.mk (Kd.R_elder' (by (with_reducible repeat (first | apply Kd.R_alloc | apply Kd.R_drewN | apply Kd.R_drew)); exact HO124.out) (Kd.R_base ho0) hb); have n1_ := Aside0.mk (Kd.R_lower (Kd.R_new' ho0 (Kd.R_lt (by (with_reducible repeat (first | apply Kd.R_alloc | apply Kd.R_drewN | apply Kd.R_drew)); exact HO124.out))) (below_size (by repeat (first | (with_reducible first | exact HB.out | apply below_alloc | apply pw_below_drewN | apply below_drew1) | exact HB.out)))); have n2_ := Aside0.mk (below_step (by repeat (first | (with_reducible first | exact HB.out | apply below_alloc | apply pw_below_drewN | apply below_drew1) | exact HB.out)) hb); clear HO124; clear HB; have HO124 := n0_; have HO128 := n1_; have HB := n2_; clear n0_ n1_ n2_; (try clear hb); (try clear hb2); (try clear hk); (try clear hi); (try clear ho0); obtain ⟨Ao39, co39, eo39⟩ := Kd.R_slice HO124.out; subst eo39; obtain ⟨Ao40, co40, eo40⟩ := Kd.R_slice HO128.out; subst eo40) | ((with_reducible refine gate_callee (f := 38) rfl ?_); refine goesL_ (some 64) rfl rfl Try.func38 (by kernel_rfl) rfl #[.slice Ao39 t121.length co39, .slice Ao40 t125.length co40] rfl (by (try simp only [List.map_toArray, List.map_cons, List.map_nil]); first | done | rfl | (simp only [List.length_drop, List.length_take]; rfl)) ?_; (with_reducible refine (dropperlaw03_same.calls kj20 _ _ t121 _ _ t125 true _ ?side1 ?side2 ?side3 ?side4 A33.out).mono ?_); (case side1 => repeat (first | exact (Kd.R_reads' HO124.out).2.2 | (with_reducible refine Kd.C_alloc ?_ _) | (with_reducible refine Kd.C_drewN ?_ _) | (with_reducible refine Kd.C_drew ?_))); (case side2 => exact (Kd.R_reads' HO124.out).2.1); (case side3 => repeat (first | exact (Kd.R_reads' HO128.out).2.2 | (with_reducible refine Kd.C_alloc ?_ _) | (with_reducible refine Kd.C_drewN ?_ _) | (with_reducible refine Kd.C_drew ?_))); (case side4 => exact (Kd.R_reads' HO128.out).2.1); rintro e w' ⟨rfl, ⟨nd, rfl⟩⟩; refine ⟨_, rfl, ?_⟩) | (go_at_call 14; (with_reducible refine (dropperlaw03_First.calls kj20  t130 _ A36.out).mono ?_); rintro e w41 ⟨rfl, hb⟩; have n0_ := Aside0.mk (Kd.R_below (by (with_reducible repeat (first | apply Kd.R_alloc | apply Kd.R_drewN | apply Kd.R_drew)); exact HO124.out) hb); have n1_ := Aside0.mk (Kd.R_below (by (with_reducible repeat (first | apply Kd.R_alloc | apply Kd.R_drewN | apply Kd.R_drew)); exact HO128.out) hb); have n2_ := Aside0.mk (below_step (by repeat (first | (with_reducible first | exact HB.out | apply below_alloc | apply pw_below_drewN | apply below_drew1) | exact HB.out)) hb); clear HO124; clear HO128; clear HB; have HO124 := n0_; have HO128 := n1_; have HB := n2_; clear n0_ n1_ n2_; (try clear hb); (try clear hb2); (try clear hk); (try clear hi)))
          go_ret
          exact ⟨by first | rfl | (simp [errW_none, errW_some] <;> rfl) | (simp [*, errW_none, errW_some] <;> rfl), by repeat (first | (with_reducible first | exact HB.out | apply below_alloc | apply pw_below_drewN | apply below_drew1) | exact HB.out)⟩
end Go.Proofs.Ytiapmkndgalgnaa.G
