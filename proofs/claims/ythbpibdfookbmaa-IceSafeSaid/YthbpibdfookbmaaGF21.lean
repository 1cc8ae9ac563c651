-- Written by this session's driver (wip/tools/printmore.py) over the kit's print, with hand-written parts.
import Derived.Test.YthbpibdfookbmaaGBase
import Derived.Test.YthbpibdfookbmaaGF29
import Derived.Test.YthbpibdfookbmaaGF53
import Derived.Test.YthbpibdfookbmaaGF54
namespace Go.Proofs.Ythbpibdfookbmaa.G
open Go.RowKit Go.Proofs.YthbpibdfookbmaaW.PrintWords Go.Proofs.YthbpibdfookbmaaW.PrintLast Go.Proofs.YthbpibdfookbmaaW.PrintMore
attribute [local go_sem] max2_int min2_int max_two min_two max_three min_three max_four min_four   -- for this text's walks alone
set_option linter.unusedVariables false
set_option linter.unusedSimpArgs false

/-! ### ice_Safe: function 21 -/
def ice_Safe.l0 : Nat → Int → List Bool → Int → Int → Option (Int × Int)
  | 0, _, _, _, _ => none
  | k + 1, x4, x12, x13, x14 => if x14 < x13 then (if 0 ≤ x14 then (if x14 < (x12.length : Int) then (if rdOf false x12 x14 = true then (ice_Safe.l0 k (wrap64 (x4 + 1)) x12 x13 (wrap64 (x14 + 1))) else (ice_Safe.l0 k x4 x12 x13 (wrap64 (x14 + 1)))) else (none)) else (none)) else (some (x4, 0))
def ice_Safe.f (k : Nat) (l0 : List Int) : Option (Int × Int) := (ice_Valid.f k l0).bind fun t101 => (if t101 = true then ((ice_gameOf.f k l0).bind fun bt102 => ((ice_game_ever.f k bt102.1 bt102.2.1 bt102.2.2).bind fun bt106 => (ice_Safe.l0 k 0 bt106.1 (bt106.1.length : Int) 0))) else (some (0, 80)))
theorem ice_Safe.mono_l : ∀ k, (∀ y0 y1 y2 y3, LeO (ice_Safe.l0 k y0 y1 y2 y3) (ice_Safe.l0 (k + 1) y0 y1 y2 y3))
  | 0 => fun _ _ _ _ r h => by simp [ice_Safe.l0] at h
  | k + 1 => by
    have ih0 := ice_Safe.mono_l k
    · intro y0 y1 y2 y3
      unfold ice_Safe.l0
      repeat' first
      | (with_reducible exact ih0 _ _ _ _)
      | (with_reducible exact ice_Valid.mono _ _)
      | (with_reducible exact ice_gameOf.mono _ _)
      | (with_reducible exact ice_game_ever.mono _ _ _ _)
      | (with_reducible exact LeO.refl _)
      | (with_reducible exact LeO.none _)
      | (with_reducible refine LeO.ite ?_ ?_)
      | (with_reducible refine LeO.bind ?_ (fun _ => ?_))
      | exact ih0 _ _ _ _
      | exact ice_Valid.mono _ _
      | exact ice_gameOf.mono _ _
      | exact ice_game_ever.mono _ _ _ _
      | exact LeO.none _
      | refine LeO.ite ?_ ?_
      | refine LeO.bind ?_ (fun _ => ?_)
theorem ice_Safe.mono : ∀ a0 k, LeO (ice_Safe.f k a0) (ice_Safe.f (k + 1) a0) := by
  intro a0 k
  have ih0 := ice_Safe.mono_l k
  unfold ice_Safe.f
  repeat' first
      | (with_reducible exact ih0 _ _ _ _)
      | (with_reducible exact ice_Valid.mono _ _)
      | (with_reducible exact ice_gameOf.mono _ _)
      | (with_reducible exact ice_game_ever.mono _ _ _ _)
      | (with_reducible exact LeO.refl _)
      | (with_reducible exact LeO.none _)
      | (with_reducible refine LeO.ite ?_ ?_)
      | (with_reducible refine LeO.bind ?_ (fun _ => ?_))
      | exact ih0 _ _ _ _
      | exact ice_Valid.mono _ _
      | exact ice_gameOf.mono _ _
      | exact ice_game_ever.mono _ _ _ _
      | exact LeO.none _
      | refine LeO.ite ?_ ?_
      | refine LeO.bind ?_ (fun _ => ?_)
set_option maxHeartbeats 8000000 in
set_option maxRecDepth 100000 in
theorem ice_Safe.calls (k : Nat) (A0 : Option Addr) (c0 : Nat) (l0 : List Int) (r1 : Int) (r2 : Int) (w : World) (hr0 : Kd.C (Kd.int .i64) w A0 l0.length l0) (hc0 : l0.length ≤ c0) (h : ice_Safe.f k l0 = some (r1, r2)) :
    Calls Try.prog 21 #[.slice A0 l0.length c0] w fun e w' => e = .returned (.tuple #[.int .i64 r1, .int .i64 r2]) ∧ Below w.heap.size w w' := by
  have HR0 := Aside0.mk hr0
  have HC0 := Aside0.mk hc0
  clear hr0 hc0
  have HB := Aside0.mk (Below.refl w.heap.size w)
  have HB00 := Aside0.mk (Below.refl w.heap.size w)
  have H : ((ice_Valid.f k l0).bind fun t101 => (if t101 = true then ((ice_gameOf.f k l0).bind fun bt102 => ((ice_game_ever.f k bt102.1 bt102.2.1 bt102.2.2).bind fun bt106 => (ice_Safe.l0 k 0 bt106.1 (bt106.1.length : Int) 0))) else (some (0, 80)))) = some (r1, r2) := h
  clear h
  replace H := Option.bind_eq_some_iff.mp H
  obtain ⟨t101, A20, H⟩ := H
  replace H : (if t101 = true then ((ice_gameOf.f k l0).bind fun bt102 => ((ice_game_ever.f k bt102.1 bt102.2.1 bt102.2.2).bind fun bt106 => (ice_Safe.l0 k 0 bt106.1 (bt106.1.length : Int) 0))) else (some (0, 80))) = some (r1, r2) := H
  have A2 := Aside0.mk A20
  clear A20
  by_cases c3 : t101 = true
  rotate_left
  · replace c3 := Bool.eq_false_iff.mpr c3
    subst c3
    have H1 : (some (0, 80)) = some (r1, r2) := by rw [if_neg (show ¬ (false = true) by decide)] at H; exact H
    clear H
    have H := H1
    clear H1
    simp only [Option.some.injEq, Prod.mk.injEq] at H
    obtain ⟨rfl, rfl⟩ := H
    go_enter Try.func21, Try.ntmps21
    go_wp2_with (first | ((with_reducible refine gate_callee (f := 29) rfl ?_); refine goesL_ (some 8) rfl rfl Try.func29 (by kernel_rfl) rfl #[.slice A0 l0.length c0] rfl (by (try simp only [List.map_toArray, List.map_cons, List.map_nil]); first | done | rfl | (simp only [List.length_drop, List.length_take]; rfl)) ?_; (with_reducible refine (ice_Valid.calls k _ _ l0 false _ ?side1 ?side2 A2.out).mono ?_); (case side1 => repeat (first | exact HR0.out | (with_reducible refine Kd.C_alloc ?_ _) | (with_reducible refine Kd.C_drewN ?_ _) | (with_reducible refine Kd.C_drew ?_))); (case side2 => exact HC0.out); rintro e w15 ⟨rfl, hb⟩; refine ⟨_, rfl, ?_⟩; have n0_ := Aside0.mk (below_step (by repeat (first | (with_reducible first | exact HB.out | apply below_alloc | apply pw_below_drewN | apply below_drew1) | exact HB.out)) hb); clear HB; have HB := n0_; clear n0_; (try clear hb); (try clear hb2); (try clear hk); (try clear hi)))
    go_ret2
    exact ⟨by first | rfl | (simp [errW_none, errW_some] <;> rfl) | (simp [*, errW_none, errW_some] <;> rfl), below_step HB00.out (by repeat (first | (with_reducible first | exact HB.out | apply below_alloc | apply pw_below_drewN | apply below_drew1) | exact HB.out))⟩

  subst c3
  have H1 : ((ice_gameOf.f k l0).bind fun bt102 => ((ice_game_ever.f k bt102.1 bt102.2.1 bt102.2.2).bind fun bt106 => (ice_Safe.l0 k 0 bt106.1 (bt106.1.length : Int) 0))) = some (r1, r2) := by rw [if_pos rfl] at H; exact H
  clear H
  have H := H1
  clear H1
  replace H := Option.bind_eq_some_iff.mp H
  obtain ⟨⟨t102, t103, t104⟩, A40, H⟩ := H
  replace H : ((ice_game_ever.f k t102 t103 t104).bind fun bt106 => (ice_Safe.l0 k 0 bt106.1 (bt106.1.length : Int) 0)) = some (r1, r2) := H
  have A4 := Aside0.mk A40
  clear A40
  replace H := Option.bind_eq_some_iff.mp H
  obtain ⟨⟨t106, t109⟩, A50, H⟩ := H
  replace H : (ice_Safe.l0 k 0 t106 (t106.length : Int) 0) = some (r1, r2) := H
  have A5 := Aside0.mk A50
  clear A50
  have H' := Aside0.mk H
  clear H
  go_enter Try.func21, Try.ntmps21
  go_wp2_with (first | ((with_reducible refine gate_callee (f := 29) rfl ?_); refine goesL_ (some 8) rfl rfl Try.func29 (by kernel_rfl) rfl #[.slice A0 l0.length c0] rfl (by (try simp only [List.map_toArray, List.map_cons, List.map_nil]); first | done | rfl | (simp only [List.length_drop, List.length_take]; rfl)) ?_; (with_reducible refine (ice_Valid.calls k _ _ l0 true _ ?side1 ?side2 A2.out).mono ?_); (case side1 => repeat (first | exact HR0.out | (with_reducible refine Kd.C_alloc ?_ _) | (with_reducible refine Kd.C_drewN ?_ _) | (with_reducible refine Kd.C_drew ?_))); (case side2 => exact HC0.out); rintro e w6 ⟨rfl, hb⟩; refine ⟨_, rfl, ?_⟩; have n0_ := Aside0.mk (below_step (by repeat (first | (with_reducible first | exact HB.out | apply below_alloc | apply pw_below_drewN | apply below_drew1) | exact HB.out)) hb); clear HB; have HB := n0_; clear n0_; (try clear hb); (try clear hb2); (try clear hk); (try clear hi)) | ((with_reducible refine gate_callee (f := 53) rfl ?_); refine goesL_ (some 11) rfl rfl Try.func53 (by kernel_rfl) rfl #[.slice A0 l0.length c0] rfl (by (try simp only [List.map_toArray, List.map_cons, List.map_nil]); first | done | rfl | (simp only [List.length_drop, List.length_take]; rfl)) ?_; (with_reducible refine (ice_gameOf.calls k _ _ l0 t102 t103 t104 w _ ?side1 ?side2 ?side3 A4.out).mono ?_); (case side1 => repeat (first | (with_reducible first | exact HB.out | apply below_alloc | apply pw_below_drewN | apply below_drew1) | exact HB.out)); (case side2 => exact HR0.out); (case side3 => exact HC0.out); rintro e w ⟨g105, rfl, hi, hb, hb2⟩; refine ⟨_, rfl, ?_⟩; have n0_ := Aside0.mk (hb); have n1_ := Aside0.mk (hi); clear HB; have HB := n0_; have HI105 := n1_; clear n0_ n1_; have HB00_ := Aside0.mk (below_step HB00.out HB.out); have n_ := Aside0.mk (Kd.C_below HR0.out HB.out); clear HR0; have HR0 := n_; clear n_; clear HB00 HB; have HB00 := HB00_; clear HB00_; have HB := Aside0.mk (Below.refl w.heap.size w); (try clear hb); (try clear hb2); (try clear hk); (try clear hi)) | ((with_reducible refine gate_callee (f := 54) rfl ?_); refine goesL_ (some 12) rfl rfl Try.func54 (by kernel_rfl) rfl #[.pointer (some ⟨g105, 0, none⟩)] rfl (by (try simp only [List.map_toArray, List.map_cons, List.map_nil]); first | done | rfl | (simp only [List.length_drop, List.length_take]; rfl)) ?_; (with_reducible refine (ice_game_ever.calls k g105 t102 t103 t104 t106 t109 w _ ?side1 ?side2 A5.out).mono ?_); (case side1 => repeat (first | (with_reducible first | exact HI105.out | apply IsS87.alloc | apply IsS87.drewN | apply IsS87.drew | apply IsS87.set_2) | exact HI105.out)); (case side2 => repeat (first | (with_reducible first | exact HB.out | apply below_alloc | apply pw_below_drewN | apply below_drew1 | refine below_set ?_ (IsS87.ge HI105.out)) | exact HB.out)); rintro e w8 ⟨v107, rfl, ho0, hi, hb, hk⟩; refine ⟨_, rfl, ?_⟩; have n0_ := Aside0.mk (Kd.R_lower ho0 (below_size (by repeat (first | (with_reducible first | exact HB.out | apply below_alloc | apply pw_below_drewN | apply below_drew1 | refine below_set ?_ (IsS87.ge HI105.out)) | exact HB.out)))); have n1_ := Aside0.mk (hb); have n2_ := Aside0.mk (hi); clear HB; clear HI105; have HO108 := n0_; have HB := n1_; have HI105 := n2_; clear n0_ n1_ n2_; (try clear hb); (try clear hb2); (try clear hk); (try clear hi); (try clear ho0); obtain ⟨Ao9, co9, eo9⟩ := Kd.R_slice HO108.out; subst eo9))
  go_loopg [4, 14] k (fun kq v4 v14 w' => ∃ (x4_1 : Int) (x14_1 : Int), v4 = .int .i64 x4_1 ∧ v14 = .int .i64 x14_1 ∧ Aside0 (ice_Safe.l0 kq x4_1 t106 (t106.length : Int) x14_1 = some (r1, r2)) ∧ Aside0 (kq ≤ k) ∧ Aside0 (Kd.R Kd.bool 4 w' w.heap.size (fun _ => True) (.slice Ao9 t106.length co9) t106) ∧ Aside0 (Below w.heap.size w w'))
  case atStart => exact ⟨(0), (0), (by first | rfl | (simp; done) | (simp [*]; done)), (by first | rfl | (simp; done) | (simp [*]; done)), H', ⟨Nat.le_refl _⟩, ⟨by (with_reducible repeat (first | apply Kd.R_alloc | apply Kd.R_drewN | apply Kd.R_drew)); exact HO108.out⟩, ⟨by repeat (first | (with_reducible first | exact HB.out | apply below_alloc | apply pw_below_drewN | apply below_drew1 | refine below_set ?_ (IsS87.ge HI105.out)) | exact HB.out)⟩⟩
  case round =>
    clear H'
    try clear c2
    try clear p2
    try clear c3
    try clear c5
    obtain ⟨x4_1, x14_1, rfl, rfl, HA, HK1, HO_12, HB⟩ := hrel
    cases gk with
    | zero => exact absurd HA.out (by simp [ice_Safe.l0])
    | succ k1 =>
      have H := HA.out
      clear HA
      simp only [ice_Safe.l0] at H
      by_cases c10 : x14_1 < (t106.length : Int)
      rotate_left
      · rw [if_neg c10] at H
        have c10b0 : decide (x14_1 < (t106.length : Int)) = false := decide_eq_false c10
        clear c10
        simp only [Option.some.injEq, Prod.mk.injEq] at H
        obtain ⟨rfl, rfl⟩ := H
        go_wp2
        go_ret2
        exact ⟨by first | rfl | (simp [errW_none, errW_some] <;> rfl) | (simp [*, errW_none, errW_some] <;> rfl), below_step HB00.out (by repeat (first | (with_reducible first | exact HB.out | apply below_alloc | apply pw_below_drewN | apply below_drew1) | exact HB.out))⟩
      rw [if_pos c10] at H
      have c10b0 : decide (x14_1 < (t106.length : Int)) = true := decide_eq_true c10
      clear c10
      by_cases c11 : 0 ≤ x14_1
      rotate_left
      · rw [if_neg c11] at H
        exact absurd H (by simp)
      rw [if_pos c11] at H
      have c11b0 : decide (0 ≤ x14_1) = true := decide_eq_true c11
      clear c11
      by_cases c12 : x14_1 < (t106.length : Int)
      rotate_left
      · rw [if_neg c12] at H
        exact absurd H (by simp)
      rw [if_pos c12] at H
      have c12b0 : decide (x14_1 < (t106.length : Int)) = true := decide_eq_true c12
      clear c12
      obtain ⟨bq13, hbq13⟩ : ∃ b_ : Bool, b_ = (rdOf false t106 x14_1) := ⟨_, rfl⟩
      replace H : (if bq13 = true then (ice_Safe.l0 k1 (wrap64 (x4_1 + 1)) t106 (t106.length : Int) (wrap64 (x14_1 + 1))) else (ice_Safe.l0 k1 x4_1 t106 (t106.length : Int) (wrap64 (x14_1 + 1)))) = some (r1, r2) := by rw [← hbq13] at H; exact H
      have Nbq13 := Aside0.mk hbq13
      clear hbq13
      by_cases c14 : bq13 = true
      · subst c14
        have H1 : (ice_Safe.l0 k1 (wrap64 (x4_1 + 1)) t106 (t106.length : Int) (wrap64 (x14_1 + 1))) = some (r1, r2) := by rw [if_pos rfl] at H; exact H
        clear H
        have H := H1
        clear H1
        have H' := Aside0.mk H
        clear H
        have p110 : 0 ≤ (x14_1 : Int) := of_decide_eq_true (by first | (with_reducible assumption) | assumption)
        have q110 : x14_1 < (t106.length : Int) := of_decide_eq_true (by first | (with_reducible assumption) | assumption)
        obtain ⟨ad110, e110, hx110_0⟩ := Kd.at_bool (Kd.R_reads' HO_12.out).2.2 x14_1 p110 q110
        (try rw [← Nbq13.out] at hx110_0)
        cases e110
        replace p110 := eq_true p110
        replace q110 := eq_true q110
        go_wp2
        go_roundg k1
        case measure => have := HK1.out; omega
        case rel => exact ⟨(wrap64 (x4_1 + 1)), (wrap64 (x14_1 + 1)), (by first | rfl | (simp; done) | (simp [*]; done)), (by first | rfl | (simp; done) | (simp [*]; done)), H', ⟨by have := HK1.out; omega⟩, ⟨by (with_reducible repeat (first | apply Kd.R_alloc | apply Kd.R_drewN | apply Kd.R_drew)); exact HO_12.out⟩, ⟨by repeat (first | (with_reducible first | exact HB.out | apply below_alloc | apply pw_below_drewN | apply below_drew1) | exact HB.out)⟩⟩
      replace c14 := Bool.eq_false_iff.mpr c14
      subst c14
      have H1 : (ice_Safe.l0 k1 x4_1 t106 (t106.length : Int) (wrap64 (x14_1 + 1))) = some (r1, r2) := by rw [if_neg (show ¬ (false = true) by decide)] at H; exact H
      clear H
      have H := H1
      clear H1
      have H' := Aside0.mk H
      clear H
      have p110 : 0 ≤ (x14_1 : Int) := of_decide_eq_true (by first | (with_reducible assumption) | assumption)
      have q110 : x14_1 < (t106.length : Int) := of_decide_eq_true (by first | (with_reducible assumption) | assumption)
      obtain ⟨ad110, e110, hx110_0⟩ := Kd.at_bool (Kd.R_reads' HO_12.out).2.2 x14_1 p110 q110
      (try rw [← Nbq13.out] at hx110_0)
      cases e110
      replace p110 := eq_true p110
      replace q110 := eq_true q110
      go_wp2
      go_roundg k1
      case measure => have := HK1.out; omega
      case rel => exact ⟨(x4_1), (wrap64 (x14_1 + 1)), (by first | rfl | (simp; done) | (simp [*]; done)), (by first | rfl | (simp; done) | (simp [*]; done)), H', ⟨by have := HK1.out; omega⟩, ⟨by (with_reducible repeat (first | apply Kd.R_alloc | apply Kd.R_drewN | apply Kd.R_drew)); exact HO_12.out⟩, ⟨by repeat (first | (with_reducible first | exact HB.out | apply below_alloc | apply pw_below_drewN | apply below_drew1) | exact HB.out)⟩⟩
end Go.Proofs.Ythbpibdfookbmaa.G
