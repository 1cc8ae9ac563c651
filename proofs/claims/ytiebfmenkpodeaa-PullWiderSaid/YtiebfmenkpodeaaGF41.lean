-- Written by this session's driver (wip/tools/printmore.py) over the kit's print, with hand-written parts.
import Derived.Test.YtiebfmenkpodeaaGBase
import Derived.Test.YtiebfmenkpodeaaGF29
import Derived.Test.YtiebfmenkpodeaaGF60
import Derived.Test.YtiebfmenkpodeaaGF78
namespace Go.Proofs.Ytiebfmenkpodeaa.G
open Go.RowKit Go.Proofs.YtiebfmenkpodeaaW.PrintWords Go.Proofs.YtiebfmenkpodeaaW.PrintLast Go.Proofs.YtiebfmenkpodeaaW.PrintMore
attribute [local go_sem] max2_int min2_int max_two min_two max_three min_three max_four min_four   -- for this text's walks alone
set_option linter.unusedVariables false
set_option linter.unusedSimpArgs false

/-! ### dropperref04_Anchors: function 41 -/
def dropperref04_Anchors.l0 : Nat → List Int → List Int → List Int → List Int → Int → Option (List Int × Int)
  | 0, _, _, _, _, _ => none
  | k + 1, x0, x8, x9, x10, x11 => if x11 < (x0.length : Int) then (if 0 ≤ x11 then (if x11 < (x8.length : Int) then (if (rd x8 x11) > 0 then (if x11 < (x9.length : Int) then (if (rd x9 x11) > 0 then (if x10.length < 17592186044416 then (dropperref04_Anchors.l0 k x0 x8 x9 (x10 ++ [x11]) (wrap64 (x11 + 1))) else (none)) else (dropperref04_Anchors.l0 k x0 x8 x9 x10 (wrap64 (x11 + 1)))) else (none)) else (dropperref04_Anchors.l0 k x0 x8 x9 x10 (wrap64 (x11 + 1)))) else (none)) else (none)) else (some (x10, 0))
def dropperref04_Anchors.f (k : Nat) (l0 : List Int) (a1 : Int) (a2 : Int) : Option (List Int × Int) := (dropperref04_Valid.f k l0 a1 a2).bind fun t101 => (if t101 = true then ((dropperref04_behind.f k l0 a1 a2).bind fun t102 => ((dropperref04_onward.f k l0 a1 a2).bind fun t105 => (dropperref04_Anchors.l0 k l0 t102 t105 ([] : List Int) 0))) else (some (([] : List Int), 40)))
theorem dropperref04_Anchors.mono_l : ∀ k, (∀ y0 y1 y2 y3 y4, LeO (dropperref04_Anchors.l0 k y0 y1 y2 y3 y4) (dropperref04_Anchors.l0 (k + 1) y0 y1 y2 y3 y4))
  | 0 => fun _ _ _ _ _ r h => by simp [dropperref04_Anchors.l0] at h
  | k + 1 => by
    have ih0 := dropperref04_Anchors.mono_l k
    · intro y0 y1 y2 y3 y4
      unfold dropperref04_Anchors.l0
      repeat' first
      | (with_reducible exact ih0 _ _ _ _ _)
      | (with_reducible exact dropperref04_Valid.mono _ _ _ _)
      | (with_reducible exact dropperref04_behind.mono _ _ _ _)
      | (with_reducible exact dropperref04_onward.mono _ _ _ _)
      | (with_reducible exact LeO.refl _)
      | (with_reducible exact LeO.none _)
      | (with_reducible refine LeO.ite ?_ ?_)
      | (with_reducible refine LeO.bind ?_ (fun _ => ?_))
      | exact ih0 _ _ _ _ _
      | exact dropperref04_Valid.mono _ _ _ _
      | exact dropperref04_behind.mono _ _ _ _
      | exact dropperref04_onward.mono _ _ _ _
      | exact LeO.none _
      | refine LeO.ite ?_ ?_
      | refine LeO.bind ?_ (fun _ => ?_)
theorem dropperref04_Anchors.mono : ∀ a0 a1 a2 k, LeO (dropperref04_Anchors.f k a0 a1 a2) (dropperref04_Anchors.f (k + 1) a0 a1 a2) := by
  intro a0 a1 a2 k
  have ih0 := dropperref04_Anchors.mono_l k
  unfold dropperref04_Anchors.f
  repeat' first
      | (with_reducible exact ih0 _ _ _ _ _)
      | (with_reducible exact dropperref04_Valid.mono _ _ _ _)
      | (with_reducible exact dropperref04_behind.mono _ _ _ _)
      | (with_reducible exact dropperref04_onward.mono _ _ _ _)
      | (with_reducible exact LeO.refl _)
      | (with_reducible exact LeO.none _)
      | (with_reducible refine LeO.ite ?_ ?_)
      | (with_reducible refine LeO.bind ?_ (fun _ => ?_))
      | exact ih0 _ _ _ _ _
      | exact dropperref04_Valid.mono _ _ _ _
      | exact dropperref04_behind.mono _ _ _ _
      | exact dropperref04_onward.mono _ _ _ _
      | exact LeO.none _
      | refine LeO.ite ?_ ?_
      | refine LeO.bind ?_ (fun _ => ?_)
set_option maxHeartbeats 8000000 in
set_option maxRecDepth 100000 in
theorem dropperref04_Anchors.calls (k : Nat) (A0 : Option Addr) (c0 : Nat) (l0 : List Int) (a1 : Int) (a2 : Int) (r1 : List Int) (r2 : Int) (w : World) (hr0 : Kd.C (Kd.int .i64) w A0 l0.length l0) (hc0 : l0.length ≤ c0) (h : dropperref04_Anchors.f k l0 a1 a2 = some (r1, r2)) :
    Calls Try.prog 41 #[.slice A0 l0.length c0, .int .i64 a1, .int .i64 a2] w fun e w' => ∃ v0_ : Value, e = .returned (.tuple #[v0_, .int .i64 r2]) ∧ Kd.R (Kd.int .i64) 3 w' w.heap.size (fun _ => True) v0_ r1 ∧ Below w.heap.size w w' := by
  have HR0 := Aside0.mk hr0
  have HC0 := Aside0.mk hc0
  clear hr0 hc0
  have HB := Aside0.mk (Below.refl w.heap.size w)
  have H : ((dropperref04_Valid.f k l0 a1 a2).bind fun t101 => (if t101 = true then ((dropperref04_behind.f k l0 a1 a2).bind fun t102 => ((dropperref04_onward.f k l0 a1 a2).bind fun t105 => (dropperref04_Anchors.l0 k l0 t102 t105 ([] : List Int) 0))) else (some (([] : List Int), 40)))) = some (r1, r2) := h
  clear h
  replace H := Option.bind_eq_some_iff.mp H
  obtain ⟨t101, A40, H⟩ := H
  replace H : (if t101 = true then ((dropperref04_behind.f k l0 a1 a2).bind fun t102 => ((dropperref04_onward.f k l0 a1 a2).bind fun t105 => (dropperref04_Anchors.l0 k l0 t102 t105 ([] : List Int) 0))) else (some (([] : List Int), 40))) = some (r1, r2) := H
  have A4 := Aside0.mk A40
  clear A40
  by_cases c5 : t101 = true
  rotate_left
  · replace c5 := Bool.eq_false_iff.mpr c5
    subst c5
    have H1 : (some (([] : List Int), 40)) = some (r1, r2) := by rw [if_neg (show ¬ (false = true) by decide)] at H; exact H
    clear H
    have H := H1
    clear H1
    simp only [Option.some.injEq, Prod.mk.injEq] at H
    obtain ⟨rfl, rfl⟩ := H
    go_enter Try.func41, Try.ntmps41
    go_wp2_with (first | ((with_reducible refine gate_callee (f := 29) rfl ?_); refine goesL_ (some 15) rfl rfl Try.func29 (by kernel_rfl) rfl #[.slice A0 l0.length c0, .int .i64 a1, .int .i64 a2] rfl (by (try simp only [List.map_toArray, List.map_cons, List.map_nil]); first | done | rfl | (simp only [List.length_drop, List.length_take]; rfl)) ?_; (with_reducible refine (dropperref04_Valid.calls k _ _ l0 a1 a2 false _ ?side1 ?side2 A4.out).mono ?_); (case side1 => repeat (first | exact HR0.out | (with_reducible refine Kd.C_alloc ?_ _) | (with_reducible refine Kd.C_drewN ?_ _) | (with_reducible refine Kd.C_drew ?_))); (case side2 => exact HC0.out); rintro e w' ⟨rfl, ⟨nd, rfl⟩⟩; refine ⟨_, rfl, ?_⟩))
    go_ret2
    exact ⟨_, by first | rfl | (simp [errW_none, errW_some] <;> rfl) | (simp [*, errW_none, errW_some] <;> rfl), by first | exact Kd.R_nil _ _ _ _ _ | exact Kd.N_nil _ _ _ _ _ | exact Kd.V_nil _ _ _ _ _ | exact Kd.Q_nil _ _ _ _ _ | exact Kd.S_nil _ _ _ _ _, by repeat (first | (with_reducible first | exact HB.out | apply below_alloc | apply pw_below_drewN | apply below_drew1) | exact HB.out)⟩

  subst c5
  have H1 : ((dropperref04_behind.f k l0 a1 a2).bind fun t102 => ((dropperref04_onward.f k l0 a1 a2).bind fun t105 => (dropperref04_Anchors.l0 k l0 t102 t105 ([] : List Int) 0))) = some (r1, r2) := by rw [if_pos rfl] at H; exact H
  clear H
  have H := H1
  clear H1
  replace H := Option.bind_eq_some_iff.mp H
  obtain ⟨t102, A60, H⟩ := H
  replace H : ((dropperref04_onward.f k l0 a1 a2).bind fun t105 => (dropperref04_Anchors.l0 k l0 t102 t105 ([] : List Int) 0)) = some (r1, r2) := H
  have A6 := Aside0.mk A60
  clear A60
  replace H := Option.bind_eq_some_iff.mp H
  obtain ⟨t105, A70, H⟩ := H
  replace H : (dropperref04_Anchors.l0 k l0 t102 t105 ([] : List Int) 0) = some (r1, r2) := H
  have A7 := Aside0.mk A70
  clear A70
  have H' := Aside0.mk H
  clear H
  go_enter Try.func41, Try.ntmps41
  go_wp2_with (first | ((with_reducible refine gate_callee (f := 29) rfl ?_); refine goesL_ (some 15) rfl rfl Try.func29 (by kernel_rfl) rfl #[.slice A0 l0.length c0, .int .i64 a1, .int .i64 a2] rfl (by (try simp only [List.map_toArray, List.map_cons, List.map_nil]); first | done | rfl | (simp only [List.length_drop, List.length_take]; rfl)) ?_; (with_reducible refine (dropperref04_Valid.calls k _ _ l0 a1 a2 true _ ?side1 ?side2 A4.out).mono ?_); (case side1 => repeat (first | exact HR0.out | (with_reducible refine Kd.C_alloc ?_ _) | (with_reducible refine Kd.C_drewN ?_ _) | (with_reducible refine Kd.C_drew ?_))); (case side2 => exact HC0.out); rintro e w' ⟨rfl, ⟨nd, rfl⟩⟩; refine ⟨_, rfl, ?_⟩) | ((with_reducible refine gate_callee (f := 78) rfl ?_); refine goesL_ (some 20) rfl rfl Try.func78 (by kernel_rfl) rfl #[.slice A0 l0.length c0, .int .i64 a1, .int .i64 a2] rfl (by (try simp only [List.map_toArray, List.map_cons, List.map_nil]); first | done | rfl | (simp only [List.length_drop, List.length_take]; rfl)) ?_; (with_reducible refine (dropperref04_behind.calls k _ _ l0 a1 a2 t102 _ ?side1 ?side2 A6.out).mono ?_); (case side1 => repeat (first | exact HR0.out | (with_reducible refine Kd.C_alloc ?_ _) | (with_reducible refine Kd.C_drewN ?_ _) | (with_reducible refine Kd.C_drew ?_))); (case side2 => exact HC0.out); rintro e w8 ⟨v103, rfl, ho0, hb⟩; refine ⟨_, rfl, ?_⟩; have n0_ := Aside0.mk (Kd.R_lower ho0 (below_size (by repeat (first | (with_reducible first | exact HB.out | apply below_alloc | apply pw_below_drewN | apply below_drew1) | exact HB.out)))); have n1_ := Aside0.mk (below_step (by repeat (first | (with_reducible first | exact HB.out | apply below_alloc | apply pw_below_drewN | apply below_drew1) | exact HB.out)) hb); clear HB; have HO104 := n0_; have HB := n1_; clear n0_ n1_; (try clear hb); (try clear hb2); (try clear hk); (try clear hi); (try clear ho0)) | ((with_reducible refine gate_callee (f := 60) rfl ?_); refine goesL_ (some 24) rfl rfl Try.func60 (by kernel_rfl) rfl #[.slice A0 l0.length c0, .int .i64 a1, .int .i64 a2] rfl (by (try simp only [List.map_toArray, List.map_cons, List.map_nil]); first | done | rfl | (simp only [List.length_drop, List.length_take]; rfl)) ?_; (with_reducible refine (dropperref04_onward.calls k _ _ l0 a1 a2 t105 _ ?side1 ?side2 A7.out).mono ?_); (case side1 => repeat (first | exact (Kd.C_below HR0.out HB.out) | (with_reducible refine Kd.C_alloc ?_ _) | (with_reducible refine Kd.C_drewN ?_ _) | (with_reducible refine Kd.C_drew ?_))); (case side2 => exact HC0.out); rintro e w9 ⟨v106, rfl, ho0, hb⟩; refine ⟨_, rfl, ?_⟩; have n0_ := Aside0.mk (Kd.R_elder' (by (with_reducible repeat (first | apply Kd.R_alloc | apply Kd.R_drewN | apply Kd.R_drew)); exact HO104.out) (Kd.R_base ho0) hb); have n1_ := Aside0.mk (Kd.R_lower (Kd.R_new' ho0 (Kd.R_lt (by (with_reducible repeat (first | apply Kd.R_alloc | apply Kd.R_drewN | apply Kd.R_drew)); exact HO104.out))) (below_size (by repeat (first | (with_reducible first | exact HB.out | apply below_alloc | apply pw_below_drewN | apply below_drew1) | exact HB.out)))); have n2_ := Aside0.mk (below_step (by repeat (first | (with_reducible first | exact HB.out | apply below_alloc | apply pw_below_drewN | apply below_drew1) | exact HB.out)) hb); clear HO104; clear HB; have HO104 := n0_; have HO107 := n1_; have HB := n2_; clear n0_ n1_ n2_; (try clear hb); (try clear hb2); (try clear hk); (try clear hi); (try clear ho0)))
  go_loopg [10, 11] k (fun kq v10 v11 w' => ∃ (x10_1 : List Int) (x11_1 : Int), v11 = .int .i64 x11_1 ∧ Aside0 (dropperref04_Anchors.l0 kq l0 t102 t105 x10_1 x11_1 = some (r1, r2)) ∧ Aside0 (kq ≤ k) ∧ Aside0 (Kd.R (Kd.int .i64) 3 w' w.heap.size (fun k_ => some k_ ≠ (v106 : Value).ownBlock ∧ some k_ ≠ (v10 : Value).ownBlock) v103 t102) ∧ Aside0 (Kd.R (Kd.int .i64) 3 w' w.heap.size (fun k_ => some k_ ≠ (v103 : Value).ownBlock ∧ some k_ ≠ (v10 : Value).ownBlock) v106 t105) ∧ Aside0 (Kd.R (Kd.int .i64) 3 w' w.heap.size (fun k_ => some k_ ≠ (v103 : Value).ownBlock ∧ some k_ ≠ (v106 : Value).ownBlock) v10 x10_1) ∧ Aside0 (Below w.heap.size w w'))
  case atStart => exact ⟨(([] : List Int)), (0), (by first | rfl | (simp; done) | (simp [*]; done)), H', ⟨Nat.le_refl _⟩, ⟨by (with_reducible repeat (first | apply Kd.R_alloc | apply Kd.R_drewN | apply Kd.R_drew)); exact Kd.R_mono HO104.out (fun _ hk => ⟨hk.2, (by simp [Value.ownBlock])⟩)⟩, ⟨by (with_reducible repeat (first | apply Kd.R_alloc | apply Kd.R_drewN | apply Kd.R_drew)); exact Kd.R_mono HO107.out (fun _ hk => ⟨hk.2, (by simp [Value.ownBlock])⟩)⟩, ⟨by first | exact Kd.R_nil _ _ _ _ _ | exact Kd.N_nil _ _ _ _ _ | exact Kd.V_nil _ _ _ _ _ | exact Kd.Q_nil _ _ _ _ _ | exact Kd.S_nil _ _ _ _ _⟩, ⟨by repeat (first | (with_reducible first | exact HB.out | apply below_alloc | apply pw_below_drewN | apply below_drew1) | exact HB.out)⟩⟩
  case round =>
    clear H'
    try clear c2
    try clear p2
    try clear c4
    try clear c5
    try clear c6
    try clear c7
    obtain ⟨x10_1, x11_1, rfl, HA, HK1, HO_8, HO_9, HO_10, HB⟩ := hrel
    cases gk with
    | zero => exact absurd HA.out (by simp [dropperref04_Anchors.l0])
    | succ k1 =>
      have H := HA.out
      clear HA
      simp only [dropperref04_Anchors.l0] at H
      by_cases c10 : x11_1 < (l0.length : Int)
      rotate_left
      · rw [if_neg c10] at H
        have c10b0 : decide (x11_1 < (l0.length : Int)) = false := decide_eq_false c10
        clear c10
        simp only [Option.some.injEq, Prod.mk.injEq] at H
        obtain ⟨rfl, rfl⟩ := H
        go_wp2
        go_ret2
        exact ⟨_, by first | rfl | (simp [errW_none, errW_some] <;> rfl) | (simp [*, errW_none, errW_some] <;> rfl), by (with_reducible repeat (first | apply Kd.R_alloc | apply Kd.R_drewN | apply Kd.R_drew)); exact Kd.R_mono HO_10.out (fun _ hk => trivial), by repeat (first | (with_reducible first | exact HB.out | apply below_alloc | apply pw_below_drewN | apply below_drew1) | exact HB.out)⟩
      rw [if_pos c10] at H
      have c10b0 : decide (x11_1 < (l0.length : Int)) = true := decide_eq_true c10
      clear c10
      by_cases c11 : 0 ≤ x11_1
      rotate_left
      · rw [if_neg c11] at H
        exact absurd H (by simp)
      rw [if_pos c11] at H
      have c11b0 : decide (0 ≤ x11_1) = true := decide_eq_true c11
      clear c11
      by_cases c12 : x11_1 < (t102.length : Int)
      rotate_left
      · rw [if_neg c12] at H
        exact absurd H (by simp)
      rw [if_pos c12] at H
      have c12b0 : decide (x11_1 < (t102.length : Int)) = true := decide_eq_true c12
      clear c12
      by_cases c13 : (rd t102 x11_1) > 0
      rotate_left
      · rw [if_neg c13] at H
        have c13b0 : decide (0 < (rd t102 x11_1)) = false := decide_eq_false c13
        clear c13
        have H' := Aside0.mk H
        clear H
        obtain ⟨Ao22, co22, eo22⟩ := Kd.R_slice HO_8.out
        subst eo22
        have p108 : 0 ≤ (x11_1 : Int) := of_decide_eq_true (by first | (with_reducible assumption) | assumption)
        have q108 : x11_1 < (t102.length : Int) := of_decide_eq_true (by first | (with_reducible assumption) | assumption)
        obtain ⟨ad108, e108, hx108_0⟩ := Kd.at_int (Kd.R_reads' HO_8.out).2.2 x11_1 p108 q108
        cases e108
        replace p108 := eq_true p108
        replace q108 := eq_true q108
        go_wp2
        go_roundg k1
        case measure => have := HK1.out; omega
        case rel => exact ⟨(x10_1), (wrap64 (x11_1 + 1)), (by first | rfl | (simp; done) | (simp [*]; done)), H', ⟨by have := HK1.out; omega⟩, ⟨by (with_reducible repeat (first | apply Kd.R_alloc | apply Kd.R_drewN | apply Kd.R_drew)); exact HO_8.out⟩, ⟨by (with_reducible repeat (first | apply Kd.R_alloc | apply Kd.R_drewN | apply Kd.R_drew)); exact HO_9.out⟩, ⟨by (with_reducible repeat (first | apply Kd.R_alloc | apply Kd.R_drewN | apply Kd.R_drew)); exact HO_10.out⟩, ⟨by repeat (first | (with_reducible first | exact HB.out | apply below_alloc | apply pw_below_drewN | apply below_drew1) | exact HB.out)⟩⟩
      rw [if_pos c13] at H
      have c13b0 : decide (0 < (rd t102 x11_1)) = true := decide_eq_true c13
      clear c13
      by_cases c14 : x11_1 < (t105.length : Int)
      rotate_left
      · rw [if_neg c14] at H
        exact absurd H (by simp)
      rw [if_pos c14] at H
      have c14b0 : decide (x11_1 < (t105.length : Int)) = true := decide_eq_true c14
      clear c14
      by_cases c15 : (rd t105 x11_1) > 0
      rotate_left
      · rw [if_neg c15] at H
        have c15b0 : decide (0 < (rd t105 x11_1)) = false := decide_eq_false c15
        clear c15
        have H' := Aside0.mk H
        clear H
        obtain ⟨Ao20, co20, eo20⟩ := Kd.R_slice HO_8.out
        subst eo20
        have p108 : 0 ≤ (x11_1 : Int) := of_decide_eq_true (by first | (with_reducible assumption) | assumption)
        have q108 : x11_1 < (t102.length : Int) := of_decide_eq_true (by first | (with_reducible assumption) | assumption)
        obtain ⟨ad108, e108, hx108_0⟩ := Kd.at_int (Kd.R_reads' HO_8.out).2.2 x11_1 p108 q108
        cases e108
        replace p108 := eq_true p108
        replace q108 := eq_true q108
        obtain ⟨Ao21, co21, eo21⟩ := Kd.R_slice HO_9.out
        subst eo21
        have p109 : 0 ≤ (x11_1 : Int) := of_decide_eq_true (by first | (with_reducible assumption) | assumption)
        have q109 : x11_1 < (t105.length : Int) := of_decide_eq_true (by first | (with_reducible assumption) | assumption)
        obtain ⟨ad109, e109, hx109_0⟩ := Kd.at_int (Kd.R_reads' HO_9.out).2.2 x11_1 p109 q109
        cases e109
        replace p109 := eq_true p109
        replace q109 := eq_true q109
        go_wp2
        go_roundg k1
        case measure => have := HK1.out; omega
        case rel => exact ⟨(x10_1), (wrap64 (x11_1 + 1)), (by first | rfl | (simp; done) | (simp [*]; done)), H', ⟨by have := HK1.out; omega⟩, ⟨by (with_reducible repeat (first | apply Kd.R_alloc | apply Kd.R_drewN | apply Kd.R_drew)); exact HO_8.out⟩, ⟨by (with_reducible repeat (first | apply Kd.R_alloc | apply Kd.R_drewN | apply Kd.R_drew)); exact HO_9.out⟩, ⟨by (with_reducible repeat (first | apply Kd.R_alloc | apply Kd.R_drewN | apply Kd.R_drew)); exact HO_10.out⟩, ⟨by repeat (first | (with_reducible first | exact HB.out | apply below_alloc | apply pw_below_drewN | apply below_drew1) | exact HB.out)⟩⟩
      rw [if_pos c15] at H
      have c15b0 : decide (0 < (rd t105 x11_1)) = true := decide_eq_true c15
      clear c15
      by_cases c16 : x10_1.length < 17592186044416
      rotate_left
      · rw [if_neg c16] at H
        exact absurd H (by simp)
      rw [if_pos c16] at H
      have LMc16 := Aside0.mk c16
      clear c16
      obtain ⟨y110, hy110⟩ : ∃ y_ : List Int, y_ = (x10_1 ++ [x11_1]) := ⟨_, rfl⟩
      replace H : (dropperref04_Anchors.l0 k1 l0 t102 t105 y110 (wrap64 (x11_1 + 1))) = some (r1, r2) := by first | (rw [hy110]; with_reducible exact H) | (have H2_ := (Option.bind_some _ _).symm.trans H; rw [hy110]; with_reducible exact H2_) | (have H2_ := (Option.bind_some _ _).symm.trans H; with_reducible exact H2_) | with_reducible exact H | (rw [hy110]; exact H) | exact H
      have Ny110 := Aside0.mk hy110
      clear hy110
      have H' := Aside0.mk H
      clear H
      obtain ⟨Ao17, co17, eo17⟩ := Kd.R_slice HO_8.out
      subst eo17
      have p108 : 0 ≤ (x11_1 : Int) := of_decide_eq_true (by first | (with_reducible assumption) | assumption)
      have q108 : x11_1 < (t102.length : Int) := of_decide_eq_true (by first | (with_reducible assumption) | assumption)
      obtain ⟨ad108, e108, hx108_0⟩ := Kd.at_int (Kd.R_reads' HO_8.out).2.2 x11_1 p108 q108
      cases e108
      replace p108 := eq_true p108
      replace q108 := eq_true q108
      obtain ⟨Ao18, co18, eo18⟩ := Kd.R_slice HO_9.out
      subst eo18
      have p109 : 0 ≤ (x11_1 : Int) := of_decide_eq_true (by first | (with_reducible assumption) | assumption)
      have q109 : x11_1 < (t105.length : Int) := of_decide_eq_true (by first | (with_reducible assumption) | assumption)
      obtain ⟨ad109, e109, hx109_0⟩ := Kd.at_int (Kd.R_reads' HO_9.out).2.2 x11_1 p109 q109
      cases e109
      replace p109 := eq_true p109
      replace q109 := eq_true q109
      go_wp2_with (first | ((with_reducible refine gate_builtin (b := .append) (xs := #[.tmp 43, .tmp 45]) rfl ?_); at_builtin; refine Kd.R_append (Kd.int .i64) (w0 := w) w.heap.size rfl (.tmp 43) (.tmp 45) 37 3 (.int .i64 0) 8 rfl Try.underlying37 info3 rfl (by decide) (by omega) u10 x10_1 x11_1 [.int .i64 x11_1] (fun k_ => some k_ ≠ (.slice (some ad108) t102.length co17 : Value).ownBlock ∧ some k_ ≠ (.slice (some ad109) t105.length co18 : Value).ownBlock) (fun _ => False) rfl rfl ?aP (fun _ hk => hk.elim) ?aF ?aO ?aB ?aS ?aL ?_; (case aP => exact rfl); (case aB => exact (by repeat (first | (with_reducible first | exact HB.out | apply below_alloc | apply pw_below_drewN | apply below_drew1) | exact HB.out))); (case aF => exact (fun k_ hk => ⟨Kd.fresh' (Kd.R_lt (by (with_reducible repeat (first | apply Kd.R_alloc | apply Kd.R_drewN | apply Kd.R_drew)); exact HO_8.out)) k_ hk, Kd.fresh' (Kd.R_lt (by (with_reducible repeat (first | apply Kd.R_alloc | apply Kd.R_drewN | apply Kd.R_drew)); exact HO_9.out)) k_ hk⟩)); (case aO => exact (by (with_reducible repeat (first | apply Kd.R_alloc | apply Kd.R_drewN | apply Kd.R_drew)); exact HO_10.out)); (case aS => exact (below_size (by repeat (first | (with_reducible first | exact HB.out | apply below_alloc | apply pw_below_drewN | apply below_drew1) | exact HB.out)))); (case aL => have := LMc16.out; omega); intro v111 w19 ho hb hg hat; rw [← Ny110.out] at ho; have n0_ := Aside0.mk (Kd.R_after (ok := (fun k_ => some k_ ≠ (.slice (some ad109) t105.length co18 : Value).ownBlock)) (by (with_reducible repeat (first | apply Kd.R_alloc | apply Kd.R_drewN | apply Kd.R_drew)); exact HO_8.out) hg hat); have n1_ := Aside0.mk (Kd.R_after (ok := (fun k_ => some k_ ≠ (.slice (some ad108) t102.length co17 : Value).ownBlock)) (by (with_reducible repeat (first | apply Kd.R_alloc | apply Kd.R_drewN | apply Kd.R_drew)); exact HO_9.out) hg hat); have n2_ := Aside0.mk (hb); have n3_ := Aside0.mk (ho); clear HO_8; clear HO_9; clear HB; clear HO_10; have HO_8 := n0_; have HO_9 := n1_; have HB := n2_; have HO112 := n3_; clear n0_ n1_ n2_ n3_; clear ho hb hg hat))
      go_roundg k1
      case measure => have := HK1.out; omega
      case rel => exact ⟨(y110), (wrap64 (x11_1 + 1)), (by first | rfl | (simp; done) | (simp [*]; done)), H', ⟨by have := HK1.out; omega⟩, ⟨by (with_reducible repeat (first | apply Kd.R_alloc | apply Kd.R_drewN | apply Kd.R_drew)); exact HO_8.out⟩, ⟨by (with_reducible repeat (first | apply Kd.R_alloc | apply Kd.R_drewN | apply Kd.R_drew)); exact HO_9.out⟩, ⟨by (with_reducible repeat (first | apply Kd.R_alloc | apply Kd.R_drewN | apply Kd.R_drew)); exact HO112.out⟩, ⟨by repeat (first | (with_reducible first | exact HB.out | apply below_alloc | apply pw_below_drewN | apply below_drew1) | exact HB.out)⟩⟩
end Go.Proofs.Ytiebfmenkpodeaa.G
