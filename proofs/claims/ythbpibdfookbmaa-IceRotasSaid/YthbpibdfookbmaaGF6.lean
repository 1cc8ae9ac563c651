-- Written by this session's driver (wip/tools/printmore.py) over the kit's print, with hand-written parts.
import Derived.Test.YthbpibdfookbmaaGBase
import Derived.Test.YthbpibdfookbmaaGQ35
import Derived.Test.YthbpibdfookbmaaGF15
import Derived.Test.YthbpibdfookbmaaGF29
import Derived.Test.YthbpibdfookbmaaGF25
import Derived.Test.YthbpibdfookbmaaGF12
import Derived.Test.YthbpibdfookbmaaGF30
import Derived.Test.YthbpibdfookbmaaGF26
import Derived.Test.YthbpibdfookbmaaGF27
import Derived.Test.YthbpibdfookbmaaGF28
import Derived.Test.YthbpibdfookbmaaGF31
import Derived.Test.YthbpibdfookbmaaGF32
import Derived.Test.YthbpibdfookbmaaGF33
import Derived.Test.YthbpibdfookbmaaGF34
namespace Go.Proofs.Ythbpibdfookbmaa.G
open Go.RowKit Go.Proofs.YthbpibdfookbmaaW.PrintWords Go.Proofs.YthbpibdfookbmaaW.PrintLast Go.Proofs.YthbpibdfookbmaaW.PrintMore
attribute [local go_sem] max2_int min2_int max_two min_two max_three min_three max_four min_four   -- for this text's walks alone
set_option linter.unusedVariables false
set_option linter.unusedSimpArgs false

attribute [local go_sem high] eqA35
/-! ### dropperlaw08_IceRotas: function 6 -/
mutual
def dropperlaw08_IceRotas.j0 : Nat → List Int → List Int → Bool → Option (Bool)
  | 0, _, _, _ => none
  | k + 1, x0, x1, x24 => if x24 = true then ((dropperlaw08_Awake.f k).bind fun t601 => (some t601)) else ((ice_Density.f k x0).bind fun bt602 => ((dropperref08_Density.f k x0).bind fun bt606 => ((ice_IsRota.f k x0 x1).bind fun bt610 => ((dropperref08_IsRota.f k x0 x1).bind fun bt612 => ((ice_Valid.f k x0).bind fun t614 => ((dropperref08_Valid.f k x0).bind fun t615 => (if (t614 != t615) = true then (dropperlaw08_IceRotas.j1 k x0 x1 true) else (if (!(bt602.1 == bt606.1) || (!(bt602.2.1 == bt606.2.1))) = true then (dropperlaw08_IceRotas.j1 k x0 x1 true) else (if bt602.2.2 = bt606.2.2 then (if (bt610.1 != bt612.1) = true then (dropperlaw08_IceRotas.j1 k x0 x1 true) else (dropperlaw08_IceRotas.j1 k x0 x1 (bt610.2 != bt612.2))) else (dropperlaw08_IceRotas.j1 k x0 x1 true))))))))))
def dropperlaw08_IceRotas.j1 : Nat → List Int → List Int → Bool → Option (Bool)
  | 0, _, _, _ => none
  | k + 1, x0, x1, x72 => if x72 = true then (some false) else ((ice_Waits.f k x0 x1).bind fun bt616 => ((dropperref08_Waits.f k x0 x1).bind fun bt620 => ((ice_Turned.f k x0 x1).bind fun bt624 => ((dropperref08_Turned.f k x0 x1).bind fun bt628 => (if bt616.2 = bt620.2 then ((dropperlaw08_SameInts.f k bt616.1 bt620.1).bind fun t632 => (if t632 = true then (if bt624.2 = bt628.2 then ((dropperlaw08_SameInts.f k bt624.1 bt628.1).bind fun t633 => (if t633 = true then ((dropperlaw08_Awake.f k).bind fun t634 => (some t634)) else (some false))) else (some false)) else (some false))) else (some false))))))
end
def dropperlaw08_IceRotas.f (k : Nat) (l0 : List Int) (l1 : List Int) : Option (Bool) := if (l0.length : Int) > 20 then (dropperlaw08_IceRotas.j0 k l0 l1 true) else (dropperlaw08_IceRotas.j0 k l0 l1 (decide ((l1.length : Int) > 300)))
theorem dropperlaw08_IceRotas.mono_l : ∀ k, (∀ y0 y1 y2, LeO (dropperlaw08_IceRotas.j0 k y0 y1 y2) (dropperlaw08_IceRotas.j0 (k + 1) y0 y1 y2)) ∧ (∀ y0 y1 y2, LeO (dropperlaw08_IceRotas.j1 k y0 y1 y2) (dropperlaw08_IceRotas.j1 (k + 1) y0 y1 y2))
  | 0 => ⟨fun _ _ _ r h => by simp [dropperlaw08_IceRotas.j0] at h, fun _ _ _ r h => by simp [dropperlaw08_IceRotas.j1] at h⟩
  | k + 1 => by
    obtain ⟨ih0, ih1⟩ := dropperlaw08_IceRotas.mono_l k
    refine ⟨?_, ?_⟩
    · intro y0 y1 y2
      unfold dropperlaw08_IceRotas.j0
      repeat' first
      | (with_reducible exact ih0 _ _ _)
      | (with_reducible exact ih1 _ _ _)
      | (with_reducible exact dropperlaw08_Awake.mono _)
      | (with_reducible exact dropperlaw08_SameInts.mono _ _ _)
      | (with_reducible exact dropperref08_Density.mono _ _)
      | (with_reducible exact dropperref08_IsRota.mono _ _ _)
      | (with_reducible exact dropperref08_Turned.mono _ _ _)
      | (with_reducible exact dropperref08_Valid.mono _ _)
      | (with_reducible exact dropperref08_Waits.mono _ _ _)
      | (with_reducible exact ice_Density.mono _ _)
      | (with_reducible exact ice_IsRota.mono _ _ _)
      | (with_reducible exact ice_Turned.mono _ _ _)
      | (with_reducible exact ice_Valid.mono _ _)
      | (with_reducible exact ice_Waits.mono _ _ _)
      | (with_reducible exact LeO.refl _)
      | (with_reducible exact LeO.none _)
      | (with_reducible refine LeO.ite ?_ ?_)
      | (with_reducible refine LeO.bind ?_ (fun _ => ?_))
      | exact ih0 _ _ _
      | exact ih1 _ _ _
      | exact dropperlaw08_Awake.mono _
      | exact dropperlaw08_SameInts.mono _ _ _
      | exact dropperref08_Density.mono _ _
      | exact dropperref08_IsRota.mono _ _ _
      | exact dropperref08_Turned.mono _ _ _
      | exact dropperref08_Valid.mono _ _
      | exact dropperref08_Waits.mono _ _ _
      | exact ice_Density.mono _ _
      | exact ice_IsRota.mono _ _ _
      | exact ice_Turned.mono _ _ _
      | exact ice_Valid.mono _ _
      | exact ice_Waits.mono _ _ _
      | exact LeO.none _
      | refine LeO.ite ?_ ?_
      | refine LeO.bind ?_ (fun _ => ?_)
    · intro y0 y1 y2
      unfold dropperlaw08_IceRotas.j1
      repeat' first
      | (with_reducible exact ih0 _ _ _)
      | (with_reducible exact ih1 _ _ _)
      | (with_reducible exact dropperlaw08_Awake.mono _)
      | (with_reducible exact dropperlaw08_SameInts.mono _ _ _)
      | (with_reducible exact dropperref08_Density.mono _ _)
      | (with_reducible exact dropperref08_IsRota.mono _ _ _)
      | (with_reducible exact dropperref08_Turned.mono _ _ _)
      | (with_reducible exact dropperref08_Valid.mono _ _)
      | (with_reducible exact dropperref08_Waits.mono _ _ _)
      | (with_reducible exact ice_Density.mono _ _)
      | (with_reducible exact ice_IsRota.mono _ _ _)
      | (with_reducible exact ice_Turned.mono _ _ _)
      | (with_reducible exact ice_Valid.mono _ _)
      | (with_reducible exact ice_Waits.mono _ _ _)
      | (with_reducible exact LeO.refl _)
      | (with_reducible exact LeO.none _)
      | (with_reducible refine LeO.ite ?_ ?_)
      | (with_reducible refine LeO.bind ?_ (fun _ => ?_))
      | exact ih0 _ _ _
      | exact ih1 _ _ _
      | exact dropperlaw08_Awake.mono _
      | exact dropperlaw08_SameInts.mono _ _ _
      | exact dropperref08_Density.mono _ _
      | exact dropperref08_IsRota.mono _ _ _
      | exact dropperref08_Turned.mono _ _ _
      | exact dropperref08_Valid.mono _ _
      | exact dropperref08_Waits.mono _ _ _
      | exact ice_Density.mono _ _
      | exact ice_IsRota.mono _ _ _
      | exact ice_Turned.mono _ _ _
      | exact ice_Valid.mono _ _
      | exact ice_Waits.mono _ _ _
      | exact LeO.none _
      | refine LeO.ite ?_ ?_
      | refine LeO.bind ?_ (fun _ => ?_)
theorem dropperlaw08_IceRotas.mono : ∀ a0 a1 k, LeO (dropperlaw08_IceRotas.f k a0 a1) (dropperlaw08_IceRotas.f (k + 1) a0 a1) := by
  intro a0 a1 k
  obtain ⟨ih0, ih1⟩ := dropperlaw08_IceRotas.mono_l k
  unfold dropperlaw08_IceRotas.f
  repeat' first
      | (with_reducible exact ih0 _ _ _)
      | (with_reducible exact ih1 _ _ _)
      | (with_reducible exact dropperlaw08_Awake.mono _)
      | (with_reducible exact dropperlaw08_SameInts.mono _ _ _)
      | (with_reducible exact dropperref08_Density.mono _ _)
      | (with_reducible exact dropperref08_IsRota.mono _ _ _)
      | (with_reducible exact dropperref08_Turned.mono _ _ _)
      | (with_reducible exact dropperref08_Valid.mono _ _)
      | (with_reducible exact dropperref08_Waits.mono _ _ _)
      | (with_reducible exact ice_Density.mono _ _)
      | (with_reducible exact ice_IsRota.mono _ _ _)
      | (with_reducible exact ice_Turned.mono _ _ _)
      | (with_reducible exact ice_Valid.mono _ _)
      | (with_reducible exact ice_Waits.mono _ _ _)
      | (with_reducible exact LeO.refl _)
      | (with_reducible exact LeO.none _)
      | (with_reducible refine LeO.ite ?_ ?_)
      | (with_reducible refine LeO.bind ?_ (fun _ => ?_))
      | exact ih0 _ _ _
      | exact ih1 _ _ _
      | exact dropperlaw08_Awake.mono _
      | exact dropperlaw08_SameInts.mono _ _ _
      | exact dropperref08_Density.mono _ _
      | exact dropperref08_IsRota.mono _ _ _
      | exact dropperref08_Turned.mono _ _ _
      | exact dropperref08_Valid.mono _ _
      | exact dropperref08_Waits.mono _ _ _
      | exact ice_Density.mono _ _
      | exact ice_IsRota.mono _ _ _
      | exact ice_Turned.mono _ _ _
      | exact ice_Valid.mono _ _
      | exact ice_Waits.mono _ _ _
      | exact LeO.none _
      | refine LeO.ite ?_ ?_
      | refine LeO.bind ?_ (fun _ => ?_)
theorem dropperlaw08_IceRotas.j1_no (k : Nat) (y0_ : List Int) (y1_ : List Int) : dropperlaw08_IceRotas.j1 k y0_ y1_ true ≠ some true := by
  cases k with
  | zero => simp [dropperlaw08_IceRotas.j1]
  | succ k => rw [dropperlaw08_IceRotas.j1]; simp
set_option maxHeartbeats 8000000 in
set_option maxRecDepth 100000 in
theorem dropperlaw08_IceRotas.calls (k : Nat) (A0 : Option Addr) (c0 : Nat) (l0 : List Int) (A1 : Option Addr) (c1 : Nat) (l1 : List Int) (r : Bool) (w : World) (hr0 : Kd.C (Kd.int .i64) w A0 l0.length l0) (hc0 : l0.length ≤ c0) (hr1 : Kd.C (Kd.int .i64) w A1 l1.length l1) (hc1 : l1.length ≤ c1) (h : dropperlaw08_IceRotas.f k l0 l1 = some r) (hT : r = true) :
    Calls Try.prog 6 #[.slice A0 l0.length c0, .slice A1 l1.length c1] w fun e w' => e = .returned (.bool r) ∧ Below w.heap.size w w' := by
  have hu35 := Try.underlying35
  have HR0 := Aside0.mk hr0
  have HC0 := Aside0.mk hc0
  clear hr0 hc0
  have HR1 := Aside0.mk hr1
  have HC1 := Aside0.mk hc1
  clear hr1 hc1
  have HB := Aside0.mk (Below.refl w.heap.size w)
  have H : (if (l0.length : Int) > 20 then (dropperlaw08_IceRotas.j0 k l0 l1 true) else (dropperlaw08_IceRotas.j0 k l0 l1 (decide ((l1.length : Int) > 300)))) = some r := h
  clear h
  have HC3 := Aside0.mk H
  clear H
  go_enter Try.func6, Try.ntmps6
  go_upto_region 1 with (fail)
  go_cut [24] (fun v24 wc => ∃ (kq : Nat) (x24_2 : Bool), v24 = .bool x24_2 ∧ Aside0 (dropperlaw08_IceRotas.j0 kq l0 l1 x24_2 = some r) ∧ Aside0 (kq ≤ k) ∧ Aside0 (Below w.heap.size w wc))
  case first =>
    have H := HC3.out
    clear HC3
    by_cases c4 : (l0.length : Int) > 20
    · rw [if_pos c4] at H
      have c4b0 : decide (20 < (l0.length : Int)) = true := decide_eq_true c4
      have c4b1 : decide (20 < l0.length) = true := decide_eq_true (by omega)
      clear c4
      (first | rw [c4b0] | (simp only [i64_w, i32_w]; rw [c4b0]) | skip)
      have H' := Aside0.mk H
      clear H
      go_wp2
      go_meet
      case rel => exact ⟨_, (true), (by first | rfl | (simp; done) | (simp [*]; done)), H', ⟨by first | omega | exact Nat.le_refl _⟩, ⟨by repeat (first | (with_reducible first | exact HB.out | apply below_alloc | apply pw_below_drewN | apply below_drew1) | exact HB.out)⟩⟩
    rw [if_neg c4] at H
    have c4b0 : decide (20 < (l0.length : Int)) = false := decide_eq_false c4
    have c4b1 : decide (20 < l0.length) = false := decide_eq_false (by omega)
    clear c4
    (first | rw [c4b0] | (simp only [i64_w, i32_w]; rw [c4b0]) | skip)
    have H' := Aside0.mk H
    clear H
    go_wp2
    go_meet
    case rel => exact ⟨_, (decide ((l1.length : Int) > 300)), (by first | rfl | (simp; done) | (simp [*]; done)), H', ⟨by first | omega | exact Nat.le_refl _⟩, ⟨by repeat (first | (with_reducible first | exact HB.out | apply below_alloc | apply pw_below_drewN | apply below_drew1) | exact HB.out)⟩⟩
  case rest =>
    clear HC3
    try clear c1
    try clear p2
    try clear c4
    try clear c4b0
    try clear c4b1
    obtain ⟨kq, x24_2, rfl, HA, HJ2, HB⟩ := hcut
    cases kq with
    | zero => exact absurd HA.out (by simp [dropperlaw08_IceRotas.j0])
    | succ kj2 =>
      have H := HA.out
      clear HA
      simp only [dropperlaw08_IceRotas.j0] at H
      by_cases c5 : x24_2 = true
      · subst c5
        have H1 : ((dropperlaw08_Awake.f kj2).bind fun t601 => (some t601)) = some r := by rw [if_pos rfl] at H; exact H
        clear H
        have H := H1
        clear H1
        replace H := Option.bind_eq_some_iff.mp H
        obtain ⟨t601, A60, H⟩ := H
        replace H : (some t601) = some r := H
        have A6 := Aside0.mk A60
        clear A60
        clear hT
        obtain rfl := Option.some.inj H
        go_wp2_with (first | ((with_reducible refine gate_callee (f := 12) rfl ?_); refine goesL_ (some 25) rfl rfl Try.func12 (by kernel_rfl) rfl #[] rfl (by (try simp only [List.map_toArray, List.map_cons, List.map_nil]); first | done | rfl | (simp only [List.length_drop, List.length_take]; rfl)) ?_; (with_reducible refine (dropperlaw08_Awake.calls kj2  t601 _ A6.out).mono ?_); rintro e w7 ⟨rfl, hb⟩; refine ⟨_, rfl, ?_⟩; have n0_ := Aside0.mk (below_step (by repeat (first | (with_reducible first | exact HB.out | apply below_alloc | apply pw_below_drewN | apply below_drew1) | exact HB.out)) hb); clear HB; have HB := n0_; clear n0_; (try clear hb); (try clear hb2); (try clear hk); (try clear hi)))
        go_ret
        exact ⟨by first | rfl | (simp [errW_none, errW_some] <;> rfl) | (simp [*, errW_none, errW_some] <;> rfl), by repeat (first | (with_reducible first | exact HB.out | apply below_alloc | apply pw_below_drewN | apply below_drew1) | exact HB.out)⟩
      replace c5 := Bool.eq_false_iff.mpr c5
      subst c5
      have H1 : ((ice_Density.f kj2 l0).bind fun bt602 => ((dropperref08_Density.f kj2 l0).bind fun bt606 => ((ice_IsRota.f kj2 l0 l1).bind fun bt610 => ((dropperref08_IsRota.f kj2 l0 l1).bind fun bt612 => ((ice_Valid.f kj2 l0).bind fun t614 => ((dropperref08_Valid.f kj2 l0).bind fun t615 => (if (t614 != t615) = true then (dropperlaw08_IceRotas.j1 kj2 l0 l1 true) else (if (!(bt602.1 == bt606.1) || (!(bt602.2.1 == bt606.2.1))) = true then (dropperlaw08_IceRotas.j1 kj2 l0 l1 true) else (if bt602.2.2 = bt606.2.2 then (if (bt610.1 != bt612.1) = true then (dropperlaw08_IceRotas.j1 kj2 l0 l1 true) else (dropperlaw08_IceRotas.j1 kj2 l0 l1 (bt610.2 != bt612.2))) else (dropperlaw08_IceRotas.j1 kj2 l0 l1 true)))))))))) = some r := by rw [if_neg (show ¬ (false = true) by decide)] at H; exact H
      clear H
      have H := H1
      clear H1
      replace H := Option.bind_eq_some_iff.mp H
      obtain ⟨⟨t602, t603, t604⟩, A80, H⟩ := H
      replace H : ((dropperref08_Density.f kj2 l0).bind fun bt606 => ((ice_IsRota.f kj2 l0 l1).bind fun bt610 => ((dropperref08_IsRota.f kj2 l0 l1).bind fun bt612 => ((ice_Valid.f kj2 l0).bind fun t614 => ((dropperref08_Valid.f kj2 l0).bind fun t615 => (if (t614 != t615) = true then (dropperlaw08_IceRotas.j1 kj2 l0 l1 true) else (if (!(t602 == bt606.1) || (!(t603 == bt606.2.1))) = true then (dropperlaw08_IceRotas.j1 kj2 l0 l1 true) else (if t604 = bt606.2.2 then (if (bt610.1 != bt612.1) = true then (dropperlaw08_IceRotas.j1 kj2 l0 l1 true) else (dropperlaw08_IceRotas.j1 kj2 l0 l1 (bt610.2 != bt612.2))) else (dropperlaw08_IceRotas.j1 kj2 l0 l1 true))))))))) = some r := H
      have A8 := Aside0.mk A80
      clear A80
      replace H := Option.bind_eq_some_iff.mp H
      obtain ⟨⟨t606, t607, t608⟩, A90, H⟩ := H
      replace H : ((ice_IsRota.f kj2 l0 l1).bind fun bt610 => ((dropperref08_IsRota.f kj2 l0 l1).bind fun bt612 => ((ice_Valid.f kj2 l0).bind fun t614 => ((dropperref08_Valid.f kj2 l0).bind fun t615 => (if (t614 != t615) = true then (dropperlaw08_IceRotas.j1 kj2 l0 l1 true) else (if (!(t602 == t606) || (!(t603 == t607))) = true then (dropperlaw08_IceRotas.j1 kj2 l0 l1 true) else (if t604 = t608 then (if (bt610.1 != bt612.1) = true then (dropperlaw08_IceRotas.j1 kj2 l0 l1 true) else (dropperlaw08_IceRotas.j1 kj2 l0 l1 (bt610.2 != bt612.2))) else (dropperlaw08_IceRotas.j1 kj2 l0 l1 true)))))))) = some r := H
      have A9 := Aside0.mk A90
      clear A90
      replace H := Option.bind_eq_some_iff.mp H
      obtain ⟨⟨t610, t611⟩, A100, H⟩ := H
      replace H : ((dropperref08_IsRota.f kj2 l0 l1).bind fun bt612 => ((ice_Valid.f kj2 l0).bind fun t614 => ((dropperref08_Valid.f kj2 l0).bind fun t615 => (if (t614 != t615) = true then (dropperlaw08_IceRotas.j1 kj2 l0 l1 true) else (if (!(t602 == t606) || (!(t603 == t607))) = true then (dropperlaw08_IceRotas.j1 kj2 l0 l1 true) else (if t604 = t608 then (if (t610 != bt612.1) = true then (dropperlaw08_IceRotas.j1 kj2 l0 l1 true) else (dropperlaw08_IceRotas.j1 kj2 l0 l1 (t611 != bt612.2))) else (dropperlaw08_IceRotas.j1 kj2 l0 l1 true))))))) = some r := H
      have A10 := Aside0.mk A100
      clear A100
      replace H := Option.bind_eq_some_iff.mp H
      obtain ⟨⟨t612, t613⟩, A110, H⟩ := H
      replace H : ((ice_Valid.f kj2 l0).bind fun t614 => ((dropperref08_Valid.f kj2 l0).bind fun t615 => (if (t614 != t615) = true then (dropperlaw08_IceRotas.j1 kj2 l0 l1 true) else (if (!(t602 == t606) || (!(t603 == t607))) = true then (dropperlaw08_IceRotas.j1 kj2 l0 l1 true) else (if t604 = t608 then (if (t610 != t612) = true then (dropperlaw08_IceRotas.j1 kj2 l0 l1 true) else (dropperlaw08_IceRotas.j1 kj2 l0 l1 (t611 != t613))) else (dropperlaw08_IceRotas.j1 kj2 l0 l1 true)))))) = some r := H
      have A11 := Aside0.mk A110
      clear A110
      have HC12 := Aside0.mk H
      clear H
      go_upto_region 7 with (first | ((with_reducible refine gate_callee (f := 25) rfl ?_); refine goesL_ (some 28) rfl rfl Try.func25 (by kernel_rfl) rfl #[.slice A0 l0.length c0] rfl (by (try simp only [List.map_toArray, List.map_cons, List.map_nil]); first | done | rfl | (simp only [List.length_drop, List.length_take]; rfl)) ?_; (with_reducible refine (ice_Density.calls kj2 _ _ l0 t602 t603 t604 _ ?side1 ?side2 A8.out).mono ?_); (case side1 => repeat (first | exact (Kd.C_below HR0.out HB.out) | (with_reducible refine Kd.C_alloc ?_ _) | (with_reducible refine Kd.C_drewN ?_ _) | (with_reducible refine Kd.C_drew ?_))); (case side2 => exact HC0.out); rintro e w13 ⟨rfl, hb⟩; refine ⟨_, rfl, ?_⟩; have n0_ := Aside0.mk (below_step (by repeat (first | (with_reducible first | exact HB.out | apply below_alloc | apply pw_below_drewN | apply below_drew1) | exact HB.out)) hb); clear HB; have HB := n0_; clear n0_; (try clear hb); (try clear hb2); (try clear hk); (try clear hi)) | ((with_reducible refine gate_dst (N := 5) rfl ?_); (try (refine gate_guard (by rfl) ?_; dsimp only)); refine box_event ?hg (N := 5) ?hd (cs := #[.int .i64 0, .int .i64 0]) (t := 35) ?hr ?_; (case hd => rfl); (case hg => rfl); (case hr => first | (go_simp; done) | (go_simp; rfl)); intro gb605 hg w14 hbox hb; have n0_ := Aside0.mk (below_step (by repeat (first | (with_reducible first | exact HB.out | apply below_alloc | apply pw_below_drewN | apply below_drew1) | exact HB.out)) hb); have n1_ := Aside0.mk (hbox); have n2_ := Aside0.mk ((by rw [hg]; exact (below_size (by repeat (first | (with_reducible first | exact HB.out | apply below_alloc | apply pw_below_drewN | apply below_drew1) | exact HB.out))) : w.heap.size ≤ gb605)); have n3_ := Aside0.mk ((by rw [hg]; exact (below_size (by repeat (first | (with_reducible first | exact HB.out | apply below_alloc | apply pw_below_drewN | apply below_drew1) | exact HB.out))) : w.heap.size ≤ gb605)); clear HB; have HB := n0_; have BK605 := n1_; have GW605 := n2_; have GE605 := n3_; clear n0_ n1_ n2_ n3_; clear hb hbox hg; have hcz15_0 : w14.cell? ⟨gb605, 0, none⟩ = some (.int .i64 0) := (blk_cell BK605.out 0).trans rfl; have hcz15_1 : w14.cell? ⟨gb605, 1, none⟩ = some (.int .i64 0) := (blk_cell BK605.out 1).trans rfl; have hfz15_0 := blk_frozen BK605.out 0; have hfz15_1 := blk_frozen BK605.out 1) | ((with_reducible refine gate_callee (f := 26) rfl ?_); refine goesL_ (some 33) rfl rfl Try.func26 (by kernel_rfl) rfl #[.slice A0 l0.length c0] rfl (by (try simp only [List.map_toArray, List.map_cons, List.map_nil]); first | done | rfl | (simp only [List.length_drop, List.length_take]; rfl)) ?_; (with_reducible refine (dropperref08_Density.calls kj2 _ _ l0 t606 t607 t608 _ ?side1 ?side2 A9.out).mono ?_); (case side1 => exact Kd.C_below HR0.out (by repeat (first | (with_reducible first | exact HB.out | apply below_alloc | apply pw_below_drewN | apply below_drew1 | refine below_set ?_ GE605.out) | exact HB.out))); (case side2 => exact HC0.out); rintro e w16 ⟨rfl, hb⟩; refine ⟨_, rfl, ?_⟩; have n0_ := Aside0.mk (blk_below (g := gb605) (o := .cells #[.int .i64 t602, .int .i64 t603] 35 (0, 0)) (by (with_reducible repeat (first | refine blk_drewN ?_ _ | refine blk_drew ?_ | refine blk_alloc ?_ _)); refine blk_put (cs := #[.int .i64 t602, .int .i64 0]) ?_ 1 _ rfl; (with_reducible repeat (first | refine blk_drewN ?_ _ | refine blk_drew ?_ | refine blk_alloc ?_ _)); refine blk_put (cs := #[.int .i64 0, .int .i64 0]) ?_ 0 _ rfl; (with_reducible repeat (first | refine blk_drewN ?_ _ | refine blk_drew ?_ | refine blk_alloc ?_ _)); exact BK605.out) hb); have n1_ := Aside0.mk (below_step (by repeat (first | (with_reducible first | exact HB.out | apply below_alloc | apply pw_below_drewN | apply below_drew1 | refine below_set ?_ GE605.out) | exact HB.out)) hb); clear BK605; clear HB; have BK605 := n0_; have HB := n1_; clear n0_ n1_; (try clear hb); (try clear hb2); (try clear hk); (try clear hi)) | ((with_reducible refine gate_dst (N := 7) rfl ?_); (try (refine gate_guard (by rfl) ?_; dsimp only)); refine box_event ?hg (N := 7) ?hd (cs := #[.int .i64 0, .int .i64 0]) (t := 35) ?hr ?_; (case hd => rfl); (case hg => rfl); (case hr => first | (go_simp; done) | (go_simp; rfl)); intro gb609 hg w17 hbox hb; have n0_ := Aside0.mk (bkB BK605 hb); have n1_ := Aside0.mk (below_step (by repeat (first | (with_reducible first | exact HB.out | apply below_alloc | apply pw_below_drewN | apply below_drew1 | refine below_set ?_ GE605.out) | exact HB.out)) hb); have n2_ := Aside0.mk (hbox); have n3_ := Aside0.mk ((by rw [hg]; exact (below_size (by repeat (first | (with_reducible first | exact HB.out | apply below_alloc | apply pw_below_drewN | apply below_drew1 | refine below_set ?_ GE605.out) | exact HB.out))) : w.heap.size ≤ gb609)); have n4_ := Aside0.mk ((by rw [hg]; exact (below_size (by repeat (first | (with_reducible first | exact HB.out | apply below_alloc | apply pw_below_drewN | apply below_drew1 | refine below_set ?_ GE605.out) | exact HB.out))) : w.heap.size ≤ gb609)); have n5_ := Aside0.mk ((bkL BK605 hg : gb605 ≠ gb609)); have n6_ := Aside0.mk ((bkG BK605 hg : gb609 ≠ gb605)); clear BK605; clear HB; have BK605 := n0_; have HB := n1_; have BK609 := n2_; have GW609 := n3_; have GE609 := n4_; have NB605_609 := n5_; have NB609_605 := n6_; clear n0_ n1_ n2_ n3_ n4_ n5_ n6_; clear hb hbox hg; have hnb18 := NB609_605.out; have hnc18 := NB605_609.out; have hcz19_0 : w17.cell? ⟨gb609, 0, none⟩ = some (.int .i64 0) := (blk_cell BK609.out 0).trans rfl; have hcz19_1 : w17.cell? ⟨gb609, 1, none⟩ = some (.int .i64 0) := (blk_cell BK609.out 1).trans rfl; have hfz19_0 := blk_frozen BK609.out 0; have hfz19_1 := blk_frozen BK609.out 1) | ((with_reducible refine gate_callee (f := 27) rfl ?_); refine goesL_ (some 39) rfl rfl Try.func27 (by kernel_rfl) rfl #[.slice A0 l0.length c0, .slice A1 l1.length c1] rfl (by (try simp only [List.map_toArray, List.map_cons, List.map_nil]); first | done | rfl | (simp only [List.length_drop, List.length_take]; rfl)) ?_; (with_reducible refine (ice_IsRota.calls kj2 _ _ l0 _ _ l1 t610 t611 _ ?side1 ?side2 ?side3 ?side4 A10.out).mono ?_); (case side1 => exact Kd.C_below HR0.out (by repeat (first | (with_reducible first | exact HB.out | apply below_alloc | apply pw_below_drewN | apply below_drew1 | refine below_set ?_ GE605.out | refine below_set ?_ GE609.out) | exact HB.out))); (case side2 => exact HC0.out); (case side3 => exact Kd.C_below HR1.out (by repeat (first | (with_reducible first | exact HB.out | apply below_alloc | apply pw_below_drewN | apply below_drew1 | refine below_set ?_ GE605.out | refine below_set ?_ GE609.out) | exact HB.out))); (case side4 => exact HC1.out); rintro e w20 ⟨rfl, hb⟩; refine ⟨_, rfl, ?_⟩; have n0_ := Aside0.mk (blk_below (g := gb605) (o := .cells #[.int .i64 t602, .int .i64 t603] 35 (0, 0)) (bkF2 BK605 NB605_609) hb); have n1_ := Aside0.mk (blk_below (g := gb609) (o := .cells #[.int .i64 t606, .int .i64 t607] 35 (0, 0)) (by (with_reducible repeat (first | refine blk_drewN ?_ _ | refine blk_drew ?_ | refine blk_alloc ?_ _)); refine blk_put (cs := #[.int .i64 t606, .int .i64 0]) ?_ 1 _ rfl; (with_reducible repeat (first | refine blk_drewN ?_ _ | refine blk_drew ?_ | refine blk_alloc ?_ _)); refine blk_put (cs := #[.int .i64 0, .int .i64 0]) ?_ 0 _ rfl; (with_reducible repeat (first | refine blk_drewN ?_ _ | refine blk_drew ?_ | refine blk_alloc ?_ _)); exact BK609.out) hb); have n2_ := Aside0.mk (below_step (by repeat (first | (with_reducible first | exact HB.out | apply below_alloc | apply pw_below_drewN | apply below_drew1 | refine below_set ?_ GE605.out | refine below_set ?_ GE609.out) | exact HB.out)) hb); clear BK605; clear BK609; clear HB; have BK605 := n0_; have BK609 := n1_; have HB := n2_; clear n0_ n1_ n2_; (try clear hb); (try clear hb2); (try clear hk); (try clear hi)) | ((with_reducible refine gate_callee (f := 28) rfl ?_); refine goesL_ (some 45) rfl rfl Try.func28 (by kernel_rfl) rfl #[.slice A0 l0.length c0, .slice A1 l1.length c1] rfl (by (try simp only [List.map_toArray, List.map_cons, List.map_nil]); first | done | rfl | (simp only [List.length_drop, List.length_take]; rfl)) ?_; (with_reducible refine (dropperref08_IsRota.calls kj2 _ _ l0 _ _ l1 t612 t613 _ ?side1 ?side2 ?side3 ?side4 A11.out).mono ?_); (case side1 => repeat (first | exact (Kd.C_below HR0.out HB.out) | (with_reducible refine Kd.C_alloc ?_ _) | (with_reducible refine Kd.C_drewN ?_ _) | (with_reducible refine Kd.C_drew ?_))); (case side2 => exact HC0.out); (case side3 => repeat (first | exact (Kd.C_below HR1.out HB.out) | (with_reducible refine Kd.C_alloc ?_ _) | (with_reducible refine Kd.C_drewN ?_ _) | (with_reducible refine Kd.C_drew ?_))); (case side4 => exact HC1.out); rintro e w21 ⟨rfl, hb⟩; refine ⟨_, rfl, ?_⟩; have n0_ := Aside0.mk (bkB BK605 hb); have n1_ := Aside0.mk (bkB BK609 hb); have n2_ := Aside0.mk (below_step (by repeat (first | (with_reducible first | exact HB.out | apply below_alloc | apply pw_below_drewN | apply below_drew1 | refine below_set ?_ GE605.out | refine below_set ?_ GE609.out) | exact HB.out)) hb); clear BK605; clear BK609; clear HB; have BK605 := n0_; have BK609 := n1_; have HB := n2_; clear n0_ n1_ n2_; (try clear hb); (try clear hb2); (try clear hk); (try clear hi)))
      (try simp only [Act.put, List.setIfInBounds_toArray, List.set_cons_zero, List.set_cons_succ])
      go_cut [72] (fun v72 wc => ∃ (kq : Nat) (x72_11 : Bool), v72 = .bool x72_11 ∧ Aside0 (dropperlaw08_IceRotas.j1 kq l0 l1 x72_11 = some r) ∧ Aside0 (kq ≤ kj2) ∧ Aside0 (wc.heap[gb605]? = some (.cells #[.int .i64 t602, .int .i64 t603] 35 (0, 0))) ∧ Aside0 (wc.heap[gb609]? = some (.cells #[.int .i64 t606, .int .i64 t607] 35 (0, 0))) ∧ Aside0 (Below w.heap.size w wc))
      case first =>
        have H := HC12.out
        clear HC12
        replace H := Option.bind_eq_some_iff.mp H
        obtain ⟨t614, A220, H⟩ := H
        replace H : ((dropperref08_Valid.f kj2 l0).bind fun t615 => (if (t614 != t615) = true then (dropperlaw08_IceRotas.j1 kj2 l0 l1 true) else (if (!(t602 == t606) || (!(t603 == t607))) = true then (dropperlaw08_IceRotas.j1 kj2 l0 l1 true) else (if t604 = t608 then (if (t610 != t612) = true then (dropperlaw08_IceRotas.j1 kj2 l0 l1 true) else (dropperlaw08_IceRotas.j1 kj2 l0 l1 (t611 != t613))) else (dropperlaw08_IceRotas.j1 kj2 l0 l1 true))))) = some r := H
        have A22 := Aside0.mk A220
        clear A220
        replace H := Option.bind_eq_some_iff.mp H
        obtain ⟨t615, A230, H⟩ := H
        replace H : (if (t614 != t615) = true then (dropperlaw08_IceRotas.j1 kj2 l0 l1 true) else (if (!(t602 == t606) || (!(t603 == t607))) = true then (dropperlaw08_IceRotas.j1 kj2 l0 l1 true) else (if t604 = t608 then (if (t610 != t612) = true then (dropperlaw08_IceRotas.j1 kj2 l0 l1 true) else (dropperlaw08_IceRotas.j1 kj2 l0 l1 (t611 != t613))) else (dropperlaw08_IceRotas.j1 kj2 l0 l1 true)))) = some r := H
        have A23 := Aside0.mk A230
        clear A230
        by_cases c24 : (t614 != t615) = true
        · rw [if_pos c24] at H
          have c24b0 : (t614 != t615) = true := c24
          (try (have c24b1 : decide (t614 = t615) = false := by simpa using c24))
          (try (have c24b2 : (t614 == t615) = false := by simpa using c24))
          (try (have c24b3 : ¬ (t614 = t615) := by simpa using c24))
          clear c24
          (first | rw [c24b0] | (simp only [i64_w, i32_w]; rw [c24b0]) | skip)
          exact absurd (H.trans (congrArg some hT)) (dropperlaw08_IceRotas.j1_no _ _ _)
        rw [if_neg c24] at H
        have c24b0 : (t614 != t615) = false := by simpa using c24
        (try (have c24b1 : decide (t614 = t615) = true := by simpa using c24))
        (try (have c24b2 : (t614 == t615) = true := by simpa using c24))
        clear c24
        (first | rw [c24b0] | (simp only [i64_w, i32_w]; rw [c24b0]) | skip)
        by_cases c25 : (!(t602 == t606) || (!(t603 == t607))) = true
        · rw [if_pos c25] at H
          have c25b0 : (!(t602 == t606) || (!(t603 == t607))) = true := c25
          clear c25
          exact absurd (H.trans (congrArg some hT)) (dropperlaw08_IceRotas.j1_no _ _ _)
        rw [if_neg c25] at H
        have c25b0 : (!(t602 == t606) || (!(t603 == t607))) = false := by simpa using c25
        clear c25
        by_cases c26 : t604 = t608
        rotate_left
        · rw [if_neg c26] at H
          have c26b0 : (t604 == t608) = false := beq_eq_false_iff_ne.mpr c26
          have c26b1 : (t604 != t608) = true := bne_iff_ne.mpr c26
          exact absurd (H.trans (congrArg some hT)) (dropperlaw08_IceRotas.j1_no _ _ _)
        rw [if_pos c26] at H
        have c26b0 : (t604 == t608) = true := beq_iff_eq.mpr c26
        have c26b1 : (t604 != t608) = false := bne_eq_false_iff_eq.mpr c26
        clear c26
        by_cases c27 : (t610 != t612) = true
        · rw [if_pos c27] at H
          have c27b0 : (t610 != t612) = true := c27
          (try (have c27b1 : decide (t610 = t612) = false := by simpa using c27))
          (try (have c27b2 : (t610 == t612) = false := by simpa using c27))
          (try (have c27b3 : ¬ (t610 = t612) := by simpa using c27))
          clear c27
          exact absurd (H.trans (congrArg some hT)) (dropperlaw08_IceRotas.j1_no _ _ _)
        rw [if_neg c27] at H
        have c27b0 : (t610 != t612) = false := by simpa using c27
        (try (have c27b1 : decide (t610 = t612) = true := by simpa using c27))
        (try (have c27b2 : (t610 == t612) = true := by simpa using c27))
        clear c27
        have H' := Aside0.mk H
        clear H
        go_wp2_with (first | ((with_reducible refine gate_callee (f := 29) rfl ?_); refine goesL_ (some 49) rfl rfl Try.func29 (by kernel_rfl) rfl #[.slice A0 l0.length c0] rfl (by (try simp only [List.map_toArray, List.map_cons, List.map_nil]); first | done | rfl | (simp only [List.length_drop, List.length_take]; rfl)) ?_; (with_reducible refine (ice_Valid.calls kj2 _ _ l0 t614 _ ?side1 ?side2 A22.out).mono ?_); (case side1 => repeat (first | exact (Kd.C_below HR0.out HB.out) | (with_reducible refine Kd.C_alloc ?_ _) | (with_reducible refine Kd.C_drewN ?_ _) | (with_reducible refine Kd.C_drew ?_))); (case side2 => exact HC0.out); rintro e w28 ⟨rfl, hb⟩; refine ⟨_, rfl, ?_⟩; have n0_ := Aside0.mk (bkB BK605 hb); have n1_ := Aside0.mk (bkB BK609 hb); have n2_ := Aside0.mk (below_step (by repeat (first | (with_reducible first | exact HB.out | apply below_alloc | apply pw_below_drewN | apply below_drew1 | refine below_set ?_ GE605.out | refine below_set ?_ GE609.out) | exact HB.out)) hb); clear BK605; clear BK609; clear HB; have BK605 := n0_; have BK609 := n1_; have HB := n2_; clear n0_ n1_ n2_; (try clear hb); (try clear hb2); (try clear hk); (try clear hi)) | ((with_reducible refine gate_callee (f := 30) rfl ?_); refine goesL_ (some 51) rfl rfl Try.func30 (by kernel_rfl) rfl #[.slice A0 l0.length c0] rfl (by (try simp only [List.map_toArray, List.map_cons, List.map_nil]); first | done | rfl | (simp only [List.length_drop, List.length_take]; rfl)) ?_; (with_reducible refine (dropperref08_Valid.calls kj2 _ _ l0 t615 _ ?side1 ?side2 A23.out).mono ?_); (case side1 => repeat (first | exact (Kd.C_below HR0.out HB.out) | (with_reducible refine Kd.C_alloc ?_ _) | (with_reducible refine Kd.C_drewN ?_ _) | (with_reducible refine Kd.C_drew ?_))); (case side2 => exact HC0.out); rintro e w' ⟨rfl, ⟨nd, rfl⟩⟩; refine ⟨_, rfl, ?_⟩; have hnb29 := NB605_609.out; have hnc29 := NB609_605.out; have hcz30_0 : w28.cell? ⟨gb605, 0, none⟩ = some (.int .i64 t602) := (blk_cell BK605.out 0).trans rfl; have hcz30_1 : w28.cell? ⟨gb605, 1, none⟩ = some (.int .i64 t603) := (blk_cell BK605.out 1).trans rfl; have hfz30_0 := blk_frozen BK605.out 0; have hfz30_1 := blk_frozen BK605.out 1; have hcz31_0 : w28.cell? ⟨gb609, 0, none⟩ = some (.int .i64 t606) := (blk_cell BK609.out 0).trans rfl; have hcz31_1 : w28.cell? ⟨gb609, 1, none⟩ = some (.int .i64 t607) := (blk_cell BK609.out 1).trans rfl; have hfz31_0 := blk_frozen BK609.out 0; have hfz31_1 := blk_frozen BK609.out 1))
        go_meet
        case rel => exact ⟨_, ((t611 != t613)), (by first | rfl | (simp; done) | (simp [*]; done)), H', ⟨by have := HJ2.out; first | omega | exact Nat.le_refl _⟩, ⟨bkU BK605⟩, ⟨bkU BK609⟩, ⟨by repeat (first | (with_reducible first | exact HB.out | apply below_alloc | apply pw_below_drewN | apply below_drew1 | refine below_set ?_ GE605.out | refine below_set ?_ GE609.out) | exact HB.out)⟩⟩
      case rest =>
        clear HC12
        try clear c1
        try clear c2
        try clear p2
        try clear c3
        try clear c4
        try clear c4b0
        try clear c4b1
        try clear c5
        try clear c6
        try clear c12
        try clear c18
        try clear c24
        try clear c24b0
        try clear c24b1
        try clear c24b2
        try clear c25
        try clear c25b0
        try clear c26
        try clear c26b0
        try clear c26b1
        try clear c27
        try clear c27b0
        try clear c27b1
        try clear c27b2
        try clear c28
        try clear c29
        try clear c30
        try clear hcz15_0
        try clear hcz15_1
        try clear hcz19_0
        try clear hcz19_1
        try clear hcz30_0
        try clear hcz30_1
        try clear hcz31_0
        try clear hcz31_1
        try clear hfz15_0
        try clear hfz15_1
        try clear hfz19_0
        try clear hfz19_1
        try clear hfz30_0
        try clear hfz30_1
        try clear hfz31_0
        try clear hfz31_1
        try clear p2
        obtain ⟨kq, x72_11, rfl, HA, HJ11, BK605, BK609, HB⟩ := hcut
        cases kq with
        | zero => exact absurd HA.out (by simp [dropperlaw08_IceRotas.j1])
        | succ kj11 =>
          have H := HA.out
          clear HA
          simp only [dropperlaw08_IceRotas.j1] at H
          by_cases c32 : x72_11 = true
          · subst c32
            have H1 : (some false) = some r := by rw [if_pos rfl] at H; exact H
            clear H
            have H := H1
            clear H1
            exact absurd (hT.symm.trans (Option.some.inj H).symm) (by decide)
          replace c32 := Bool.eq_false_iff.mpr c32
          subst c32
          have H1 : ((ice_Waits.f kj11 l0 l1).bind fun bt616 => ((dropperref08_Waits.f kj11 l0 l1).bind fun bt620 => ((ice_Turned.f kj11 l0 l1).bind fun bt624 => ((dropperref08_Turned.f kj11 l0 l1).bind fun bt628 => (if bt616.2 = bt620.2 then ((dropperlaw08_SameInts.f kj11 bt616.1 bt620.1).bind fun t632 => (if t632 = true then (if bt624.2 = bt628.2 then ((dropperlaw08_SameInts.f kj11 bt624.1 bt628.1).bind fun t633 => (if t633 = true then ((dropperlaw08_Awake.f kj11).bind fun t634 => (some t634)) else (some false))) else (some false)) else (some false))) else (some false)))))) = some r := by rw [if_neg (show ¬ (false = true) by decide)] at H; exact H
          clear H
          have H := H1
          clear H1
          replace H := Option.bind_eq_some_iff.mp H
          obtain ⟨⟨t616, t617⟩, A330, H⟩ := H
          replace H : ((dropperref08_Waits.f kj11 l0 l1).bind fun bt620 => ((ice_Turned.f kj11 l0 l1).bind fun bt624 => ((dropperref08_Turned.f kj11 l0 l1).bind fun bt628 => (if t617 = bt620.2 then ((dropperlaw08_SameInts.f kj11 t616 bt620.1).bind fun t632 => (if t632 = true then (if bt624.2 = bt628.2 then ((dropperlaw08_SameInts.f kj11 bt624.1 bt628.1).bind fun t633 => (if t633 = true then ((dropperlaw08_Awake.f kj11).bind fun t634 => (some t634)) else (some false))) else (some false)) else (some false))) else (some false))))) = some r := H
          have A33 := Aside0.mk A330
          clear A330
          replace H := Option.bind_eq_some_iff.mp H
          obtain ⟨⟨t620, t621⟩, A340, H⟩ := H
          replace H : ((ice_Turned.f kj11 l0 l1).bind fun bt624 => ((dropperref08_Turned.f kj11 l0 l1).bind fun bt628 => (if t617 = t621 then ((dropperlaw08_SameInts.f kj11 t616 t620).bind fun t632 => (if t632 = true then (if bt624.2 = bt628.2 then ((dropperlaw08_SameInts.f kj11 bt624.1 bt628.1).bind fun t633 => (if t633 = true then ((dropperlaw08_Awake.f kj11).bind fun t634 => (some t634)) else (some false))) else (some false)) else (some false))) else (some false)))) = some r := H
          have A34 := Aside0.mk A340
          clear A340
          replace H := Option.bind_eq_some_iff.mp H
          obtain ⟨⟨t624, t625⟩, A350, H⟩ := H
          replace H : ((dropperref08_Turned.f kj11 l0 l1).bind fun bt628 => (if t617 = t621 then ((dropperlaw08_SameInts.f kj11 t616 t620).bind fun t632 => (if t632 = true then (if t625 = bt628.2 then ((dropperlaw08_SameInts.f kj11 t624 bt628.1).bind fun t633 => (if t633 = true then ((dropperlaw08_Awake.f kj11).bind fun t634 => (some t634)) else (some false))) else (some false)) else (some false))) else (some false))) = some r := H
          have A35 := Aside0.mk A350
          clear A350
          replace H := Option.bind_eq_some_iff.mp H
          obtain ⟨⟨t628, t629⟩, A360, H⟩ := H
          replace H : (if t617 = t621 then ((dropperlaw08_SameInts.f kj11 t616 t620).bind fun t632 => (if t632 = true then (if t625 = t629 then ((dropperlaw08_SameInts.f kj11 t624 t628).bind fun t633 => (if t633 = true then ((dropperlaw08_Awake.f kj11).bind fun t634 => (some t634)) else (some false))) else (some false)) else (some false))) else (some false)) = some r := H
          have A36 := Aside0.mk A360
          clear A360
          by_cases c37 : t617 = t621
          rotate_left
          · rw [if_neg c37] at H
            have c37b0 : (t617 == t621) = false := beq_eq_false_iff_ne.mpr c37
            have c37b1 : (t617 != t621) = true := bne_iff_ne.mpr c37
            exact absurd (hT.symm.trans (Option.some.inj H).symm) (by decide)

          rw [if_pos c37] at H
          have c37b0 : (t617 == t621) = true := beq_iff_eq.mpr c37
          have c37b1 : (t617 != t621) = false := bne_eq_false_iff_eq.mpr c37
          clear c37
          replace H := Option.bind_eq_some_iff.mp H
          obtain ⟨t632, A380, H⟩ := H
          replace H : (if t632 = true then (if t625 = t629 then ((dropperlaw08_SameInts.f kj11 t624 t628).bind fun t633 => (if t633 = true then ((dropperlaw08_Awake.f kj11).bind fun t634 => (some t634)) else (some false))) else (some false)) else (some false)) = some r := H
          have A38 := Aside0.mk A380
          clear A380
          by_cases c39 : t632 = true
          rotate_left
          · replace c39 := Bool.eq_false_iff.mpr c39
            subst c39
            have H1 : (some false) = some r := by rw [if_neg (show ¬ (false = true) by decide)] at H; exact H
            clear H
            have H := H1
            clear H1
            exact absurd (hT.symm.trans (Option.some.inj H).symm) (by decide)
          subst c39
          have H1 : (if t625 = t629 then ((dropperlaw08_SameInts.f kj11 t624 t628).bind fun t633 => (if t633 = true then ((dropperlaw08_Awake.f kj11).bind fun t634 => (some t634)) else (some false))) else (some false)) = some r := by rw [if_pos rfl] at H; exact H
          clear H
          have H := H1
          clear H1
          by_cases c40 : t625 = t629
          rotate_left
          · rw [if_neg c40] at H
            have c40b0 : (t625 == t629) = false := beq_eq_false_iff_ne.mpr c40
            have c40b1 : (t625 != t629) = true := bne_iff_ne.mpr c40
            exact absurd (hT.symm.trans (Option.some.inj H).symm) (by decide)
          rw [if_pos c40] at H
          have c40b0 : (t625 == t629) = true := beq_iff_eq.mpr c40
          have c40b1 : (t625 != t629) = false := bne_eq_false_iff_eq.mpr c40
          clear c40
          replace H := Option.bind_eq_some_iff.mp H
          obtain ⟨t633, A410, H⟩ := H
          replace H : (if t633 = true then ((dropperlaw08_Awake.f kj11).bind fun t634 => (some t634)) else (some false)) = some r := H
          have A41 := Aside0.mk A410
          clear A410
          by_cases c42 : t633 = true
          rotate_left
          · replace c42 := Bool.eq_false_iff.mpr c42
            subst c42
            have H1 : (some false) = some r := by rw [if_neg (show ¬ (false = true) by decide)] at H; exact H
            clear H
            have H := H1
            clear H1
            exact absurd (hT.symm.trans (Option.some.inj H).symm) (by decide)
          subst c42
          have H1 : ((dropperlaw08_Awake.f kj11).bind fun t634 => (some t634)) = some r := by rw [if_pos rfl] at H; exact H
          clear H
          have H := H1
          clear H1
          replace H := Option.bind_eq_some_iff.mp H
          obtain ⟨t634, A430, H⟩ := H
          replace H : (some t634) = some r := H
          have A43 := Aside0.mk A430
          clear A430
          clear hT
          obtain rfl := Option.some.inj H
          go_wp2_with (first | ((with_reducible refine gate_callee (f := 31) rfl ?_); refine goesL_ (some 76) rfl rfl Try.func31 (by kernel_rfl) rfl #[.slice A0 l0.length c0, .slice A1 l1.length c1] rfl (by (try simp only [List.map_toArray, List.map_cons, List.map_nil]); first | done | rfl | (simp only [List.length_drop, List.length_take]; rfl)) ?_; (with_reducible refine (ice_Waits.calls kj11 _ _ l0 _ _ l1 t616 t617 _ ?side1 ?side2 ?side3 ?side4 A33.out).mono ?_); (case side1 => repeat (first | exact (Kd.C_below HR0.out HB.out) | (with_reducible refine Kd.C_alloc ?_ _) | (with_reducible refine Kd.C_drewN ?_ _) | (with_reducible refine Kd.C_drew ?_))); (case side2 => exact HC0.out); (case side3 => repeat (first | exact (Kd.C_below HR1.out HB.out) | (with_reducible refine Kd.C_alloc ?_ _) | (with_reducible refine Kd.C_drewN ?_ _) | (with_reducible refine Kd.C_drew ?_))); (case side4 => exact HC1.out); rintro e w44 ⟨v618, rfl, ho0, hb⟩; refine ⟨_, rfl, ?_⟩; have n0_ := Aside0.mk (Kd.R_lower ho0 (below_size (by repeat (first | (with_reducible first | exact HB.out | apply below_alloc | apply pw_below_drewN | apply below_drew1 | refine below_set ?_ GE605.out | refine below_set ?_ GE609.out) | exact HB.out)))); have n1_ := Aside0.mk (bkB BK605 hb); have n2_ := Aside0.mk (bkB BK609 hb); have n3_ := Aside0.mk (below_step (by repeat (first | (with_reducible first | exact HB.out | apply below_alloc | apply pw_below_drewN | apply below_drew1 | refine below_set ?_ GE605.out | refine below_set ?_ GE609.out) | exact HB.out)) hb); clear BK605; clear BK609; clear HB; have HO619 := n0_; have BK605 := n1_; have BK609 := n2_; have HB := n3_; clear n0_ n1_ n2_ n3_; (try clear hb); (try clear hb2); (try clear hk); (try clear hi); (try clear ho0)) | ((with_reducible refine gate_callee (f := 32) rfl ?_); refine goesL_ (some 82) rfl rfl Try.func32 (by kernel_rfl) rfl #[.slice A0 l0.length c0, .slice A1 l1.length c1] rfl (by (try simp only [List.map_toArray, List.map_cons, List.map_nil]); first | done | rfl | (simp only [List.length_drop, List.length_take]; rfl)) ?_; (with_reducible refine (dropperref08_Waits.calls kj11 _ _ l0 _ _ l1 t620 t621 _ ?side1 ?side2 ?side3 ?side4 A34.out).mono ?_); (case side1 => repeat (first | exact (Kd.C_below HR0.out HB.out) | (with_reducible refine Kd.C_alloc ?_ _) | (with_reducible refine Kd.C_drewN ?_ _) | (with_reducible refine Kd.C_drew ?_))); (case side2 => exact HC0.out); (case side3 => repeat (first | exact (Kd.C_below HR1.out HB.out) | (with_reducible refine Kd.C_alloc ?_ _) | (with_reducible refine Kd.C_drewN ?_ _) | (with_reducible refine Kd.C_drew ?_))); (case side4 => exact HC1.out); rintro e w45 ⟨v622, rfl, ho0, hb⟩; refine ⟨_, rfl, ?_⟩; have n0_ := Aside0.mk (Kd.R_elder' (by (with_reducible repeat (first | apply Kd.R_alloc | apply Kd.R_drewN | apply Kd.R_drew)); exact HO619.out) (Kd.R_base ho0) hb); have n1_ := Aside0.mk (Kd.R_lower (Kd.R_new' ho0 (Kd.R_lt (by (with_reducible repeat (first | apply Kd.R_alloc | apply Kd.R_drewN | apply Kd.R_drew)); exact HO619.out))) (below_size (by repeat (first | (with_reducible first | exact HB.out | apply below_alloc | apply pw_below_drewN | apply below_drew1 | refine below_set ?_ GE605.out | refine below_set ?_ GE609.out) | exact HB.out)))); have n2_ := Aside0.mk (bkB BK605 hb); have n3_ := Aside0.mk (bkB BK609 hb); have n4_ := Aside0.mk (below_step (by repeat (first | (with_reducible first | exact HB.out | apply below_alloc | apply pw_below_drewN | apply below_drew1 | refine below_set ?_ GE605.out | refine below_set ?_ GE609.out) | exact HB.out)) hb); clear HO619; clear BK605; clear BK609; clear HB; have HO619 := n0_; have HO623 := n1_; have BK605 := n2_; have BK609 := n3_; have HB := n4_; clear n0_ n1_ n2_ n3_ n4_; (try clear hb); (try clear hb2); (try clear hk); (try clear hi); (try clear ho0)) | ((with_reducible refine gate_callee (f := 33) rfl ?_); refine goesL_ (some 88) rfl rfl Try.func33 (by kernel_rfl) rfl #[.slice A0 l0.length c0, .slice A1 l1.length c1] rfl (by (try simp only [List.map_toArray, List.map_cons, List.map_nil]); first | done | rfl | (simp only [List.length_drop, List.length_take]; rfl)) ?_; (with_reducible refine (ice_Turned.calls kj11 _ _ l0 _ _ l1 t624 t625 _ ?side1 ?side2 ?side3 ?side4 A35.out).mono ?_); (case side1 => repeat (first | exact (Kd.C_below HR0.out HB.out) | (with_reducible refine Kd.C_alloc ?_ _) | (with_reducible refine Kd.C_drewN ?_ _) | (with_reducible refine Kd.C_drew ?_))); (case side2 => exact HC0.out); (case side3 => repeat (first | exact (Kd.C_below HR1.out HB.out) | (with_reducible refine Kd.C_alloc ?_ _) | (with_reducible refine Kd.C_drewN ?_ _) | (with_reducible refine Kd.C_drew ?_))); (case side4 => exact HC1.out); rintro e w46 ⟨v626, rfl, ho0, hb⟩; refine ⟨_, rfl, ?_⟩; have n0_ := Aside0.mk (Kd.R_elder' (by (with_reducible repeat (first | apply Kd.R_alloc | apply Kd.R_drewN | apply Kd.R_drew)); exact HO619.out) (Kd.R_base ho0) hb); have n1_ := Aside0.mk (Kd.R_elder' (by (with_reducible repeat (first | apply Kd.R_alloc | apply Kd.R_drewN | apply Kd.R_drew)); exact HO623.out) (Kd.R_base ho0) hb); have n2_ := Aside0.mk (Kd.R_lower (Kd.R_new' (Kd.R_new' ho0 (Kd.R_lt (by (with_reducible repeat (first | apply Kd.R_alloc | apply Kd.R_drewN | apply Kd.R_drew)); exact HO619.out))) (Kd.R_lt (by (with_reducible repeat (first | apply Kd.R_alloc | apply Kd.R_drewN | apply Kd.R_drew)); exact HO623.out))) (below_size (by repeat (first | (with_reducible first | exact HB.out | apply below_alloc | apply pw_below_drewN | apply below_drew1 | refine below_set ?_ GE605.out | refine below_set ?_ GE609.out) | exact HB.out)))); have n3_ := Aside0.mk (bkB BK605 hb); have n4_ := Aside0.mk (bkB BK609 hb); have n5_ := Aside0.mk (below_step (by repeat (first | (with_reducible first | exact HB.out | apply below_alloc | apply pw_below_drewN | apply below_drew1 | refine below_set ?_ GE605.out | refine below_set ?_ GE609.out) | exact HB.out)) hb); clear HO619; clear HO623; clear BK605; clear BK609; clear HB; have HO619 := n0_; have HO623 := n1_; have HO627 := n2_; have BK605 := n3_; have BK609 := n4_; have HB := n5_; clear n0_ n1_ n2_ n3_ n4_ n5_; (try clear hb); (try clear hb2); (try clear hk); (try clear hi); (try clear ho0)) | ((with_reducible refine gate_callee (f := 34) rfl ?_); refine goesL_ (some 94) rfl rfl Try.func34 (by kernel_rfl) rfl #[.slice A0 l0.length c0, .slice A1 l1.length c1] rfl (by (try simp only [List.map_toArray, List.map_cons, List.map_nil]); first | done | rfl | (simp only [List.length_drop, List.length_take]; rfl)) ?_; (with_reducible refine (dropperref08_Turned.calls kj11 _ _ l0 _ _ l1 t628 t629 _ ?side1 ?side2 ?side3 ?side4 A36.out).mono ?_); (case side1 => repeat (first | exact (Kd.C_below HR0.out HB.out) | (with_reducible refine Kd.C_alloc ?_ _) | (with_reducible refine Kd.C_drewN ?_ _) | (with_reducible refine Kd.C_drew ?_))); (case side2 => exact HC0.out); (case side3 => repeat (first | exact (Kd.C_below HR1.out HB.out) | (with_reducible refine Kd.C_alloc ?_ _) | (with_reducible refine Kd.C_drewN ?_ _) | (with_reducible refine Kd.C_drew ?_))); (case side4 => exact HC1.out); rintro e w47 ⟨v630, rfl, ho0, hb⟩; refine ⟨_, rfl, ?_⟩; have n0_ := Aside0.mk (Kd.R_elder' (by (with_reducible repeat (first | apply Kd.R_alloc | apply Kd.R_drewN | apply Kd.R_drew)); exact HO619.out) (Kd.R_base ho0) hb); have n1_ := Aside0.mk (Kd.R_elder' (by (with_reducible repeat (first | apply Kd.R_alloc | apply Kd.R_drewN | apply Kd.R_drew)); exact HO623.out) (Kd.R_base ho0) hb); have n2_ := Aside0.mk (Kd.R_elder' (by (with_reducible repeat (first | apply Kd.R_alloc | apply Kd.R_drewN | apply Kd.R_drew)); exact HO627.out) (Kd.R_base ho0) hb); have n3_ := Aside0.mk (Kd.R_lower (Kd.R_new' (Kd.R_new' (Kd.R_new' ho0 (Kd.R_lt (by (with_reducible repeat (first | apply Kd.R_alloc | apply Kd.R_drewN | apply Kd.R_drew)); exact HO619.out))) (Kd.R_lt (by (with_reducible repeat (first | apply Kd.R_alloc | apply Kd.R_drewN | apply Kd.R_drew)); exact HO623.out))) (Kd.R_lt (by (with_reducible repeat (first | apply Kd.R_alloc | apply Kd.R_drewN | apply Kd.R_drew)); exact HO627.out))) (below_size (by repeat (first | (with_reducible first | exact HB.out | apply below_alloc | apply pw_below_drewN | apply below_drew1 | refine below_set ?_ GE605.out | refine below_set ?_ GE609.out) | exact HB.out)))); have n4_ := Aside0.mk (bkB BK605 hb); have n5_ := Aside0.mk (bkB BK609 hb); have n6_ := Aside0.mk (below_step (by repeat (first | (with_reducible first | exact HB.out | apply below_alloc | apply pw_below_drewN | apply below_drew1 | refine below_set ?_ GE605.out | refine below_set ?_ GE609.out) | exact HB.out)) hb); clear HO619; clear HO623; clear HO627; clear BK605; clear BK609; clear HB; have HO619 := n0_; have HO623 := n1_; have HO627 := n2_; have HO631 := n3_; have BK605 := n4_; have BK609 := n5_; have HB := n6_; clear n0_ n1_ n2_ n3_ n4_ n5_ n6_; (try clear hb); (try clear hb2); (try clear hk); (try clear hi); (try clear ho0); obtain ⟨Ao48, co48, eo48⟩ := Kd.R_slice HO619.out; subst eo48; obtain ⟨Ao49, co49, eo49⟩ := Kd.R_slice HO623.out; subst eo49) | (go_at_call 15; (with_reducible refine (dropperlaw08_SameInts.calls kj11 _ _ t616 _ _ t620 true _ ?side1 ?side2 ?side3 ?side4 A38.out).mono ?_); (case side1 => repeat (first | exact (Kd.R_reads' HO619.out).2.2 | (with_reducible refine Kd.C_alloc ?_ _) | (with_reducible refine Kd.C_drewN ?_ _) | (with_reducible refine Kd.C_drew ?_))); (case side2 => exact (Kd.R_reads' HO619.out).2.1); (case side3 => repeat (first | exact (Kd.R_reads' HO623.out).2.2 | (with_reducible refine Kd.C_alloc ?_ _) | (with_reducible refine Kd.C_drewN ?_ _) | (with_reducible refine Kd.C_drew ?_))); (case side4 => exact (Kd.R_reads' HO623.out).2.1); rintro e w' ⟨rfl, ⟨nd, rfl⟩⟩; obtain ⟨Ao50, co50, eo50⟩ := Kd.R_slice HO627.out; subst eo50; obtain ⟨Ao51, co51, eo51⟩ := Kd.R_slice HO631.out; subst eo51) | (go_at_call 15; (with_reducible refine (dropperlaw08_SameInts.calls kj11 _ _ t624 _ _ t628 true _ ?side1 ?side2 ?side3 ?side4 A41.out).mono ?_); (case side1 => repeat (first | exact (Kd.R_reads' HO627.out).2.2 | (with_reducible refine Kd.C_alloc ?_ _) | (with_reducible refine Kd.C_drewN ?_ _) | (with_reducible refine Kd.C_drew ?_))); (case side2 => exact (Kd.R_reads' HO627.out).2.1); (case side3 => repeat (first | exact (Kd.R_reads' HO631.out).2.2 | (with_reducible refine Kd.C_alloc ?_ _) | (with_reducible refine Kd.C_drewN ?_ _) | (with_reducible refine Kd.C_drew ?_))); (case side4 => exact (Kd.R_reads' HO631.out).2.1); rintro e w' ⟨rfl, ⟨nd, rfl⟩⟩) | (go_at_call 12; (with_reducible refine (dropperlaw08_Awake.calls kj11  t634 _ A43.out).mono ?_); rintro e w52 ⟨rfl, hb⟩; have n0_ := Aside0.mk (Kd.R_below (by (with_reducible repeat (first | apply Kd.R_alloc | apply Kd.R_drewN | apply Kd.R_drew)); exact HO619.out) hb); have n1_ := Aside0.mk (Kd.R_below (by (with_reducible repeat (first | apply Kd.R_alloc | apply Kd.R_drewN | apply Kd.R_drew)); exact HO623.out) hb); have n2_ := Aside0.mk (Kd.R_below (by (with_reducible repeat (first | apply Kd.R_alloc | apply Kd.R_drewN | apply Kd.R_drew)); exact HO627.out) hb); have n3_ := Aside0.mk (Kd.R_below (by (with_reducible repeat (first | apply Kd.R_alloc | apply Kd.R_drewN | apply Kd.R_drew)); exact HO631.out) hb); have n4_ := Aside0.mk (bkB BK605 hb); have n5_ := Aside0.mk (bkB BK609 hb); have n6_ := Aside0.mk (below_step (by repeat (first | (with_reducible first | exact HB.out | apply below_alloc | apply pw_below_drewN | apply below_drew1 | refine below_set ?_ GE605.out | refine below_set ?_ GE609.out) | exact HB.out)) hb); clear HO619; clear HO623; clear HO627; clear HO631; clear BK605; clear BK609; clear HB; have HO619 := n0_; have HO623 := n1_; have HO627 := n2_; have HO631 := n3_; have BK605 := n4_; have BK609 := n5_; have HB := n6_; clear n0_ n1_ n2_ n3_ n4_ n5_ n6_; (try clear hb); (try clear hb2); (try clear hk); (try clear hi)))
          go_ret
          exact ⟨by first | rfl | (simp [errW_none, errW_some] <;> rfl) | (simp [*, errW_none, errW_some] <;> rfl), by repeat (first | (with_reducible first | exact HB.out | apply below_alloc | apply pw_below_drewN | apply below_drew1 | refine below_set ?_ GE605.out | refine below_set ?_ GE609.out) | exact HB.out)⟩
end Go.Proofs.Ythbpibdfookbmaa.G
