-- Written by this session's driver (wip/tools/printmore.py) over the kit's print, with hand-written parts.
import Derived.Test.YthbpibdfookbmaaGBase
import Derived.Test.YthbpibdfookbmaaGF43
import Derived.Test.YthbpibdfookbmaaGF12
import Derived.Test.YthbpibdfookbmaaGF30
import Derived.Test.YthbpibdfookbmaaGF18
import Derived.Test.YthbpibdfookbmaaGF20
import Derived.Test.YthbpibdfookbmaaGF27
import Derived.Test.YthbpibdfookbmaaGF45
namespace Go.Proofs.Ythbpibdfookbmaa.G
open Go.RowKit Go.Proofs.YthbpibdfookbmaaW.PrintWords Go.Proofs.YthbpibdfookbmaaW.PrintLast Go.Proofs.YthbpibdfookbmaaW.PrintMore
attribute [local go_sem] max2_int min2_int max_two min_two max_three min_three max_four min_four   -- for this text's walks alone
set_option linter.unusedVariables false
set_option linter.unusedSimpArgs false

/-! ### dropperlaw08_IceEases: function 10 -/
mutual
def dropperlaw08_IceEases.j0 : Nat → List Int → Int → List Int → Bool → Option (Bool)
  | 0, _, _, _, _ => none
  | k + 1, x0, x1, x2, x28 => if x28 = true then ((dropperlaw08_Awake.f k).bind fun t602 => (some t602)) else (if (x0.length : Int) = 0 then (none) else ((ice_Ease.f k x0 (Int.tmod (wrap64 (x1)) (x0.length : Int))).bind fun bt603 => (if 0 ≤ (Int.tmod (wrap64 (x1)) (x0.length : Int)) then (if (Int.tmod (wrap64 (x1)) (x0.length : Int)) < (x0.length : Int) then (if (rd x0 (Int.tmod (wrap64 (x1)) (x0.length : Int))) = 8 then (if bt603.2 = 2 then ((dropperlaw08_Awake.f k).bind fun t608 => (some t608)) else (some false)) else (if bt603.2 = 0 then (if (bt603.1.length : Int) = (x0.length : Int) then ((dropperlaw08_Many.f k bt603.1 ([] : List (List Int))).bind fun t609 => (dropperlaw08_IceEases.j1 k x0 x2 bt603.1 bt603.2 t609)) else (dropperlaw08_IceEases.j1 k x0 x2 bt603.1 bt603.2 true)) else (dropperlaw08_IceEases.j1 k x0 x2 bt603.1 bt603.2 true))) else (none)) else (none))))
def dropperlaw08_IceEases.j1 : Nat → List Int → List Int → List Int → Int → Bool → Option (Bool)
  | 0, _, _, _, _, _ => none
  | k + 1, x0, x2, x8, x9, x63 => if x63 = true then (if x9 = 0 then (if (x8.length : Int) = (x0.length : Int) then ((dropperlaw08_Awake.f k).bind fun t610 => (some t610)) else (some false)) else (some false)) else ((ice_Lasts.f k x0).bind fun bt611 => ((ice_Lasts.f k x8).bind fun bt613 => (if bt611.2 = 5 then (if bt613.2 = 5 then (if bt611.2 = 0 then (if bt613.2 = 0 then (if bt613.1 < bt611.1 then (dropperlaw08_IceEases.j2 k x0 x2 x8 bt611.2 bt613.2 true) else (dropperlaw08_IceEases.j2 k x0 x2 x8 bt611.2 bt613.2 false)) else (dropperlaw08_IceEases.j2 k x0 x2 x8 bt611.2 bt613.2 (bt613.2 != 5))) else (if bt613.2 = 0 then (dropperlaw08_IceEases.j2 k x0 x2 x8 bt611.2 bt613.2 false) else (dropperlaw08_IceEases.j2 k x0 x2 x8 bt611.2 bt613.2 (bt613.2 != 5)))) else (dropperlaw08_IceEases.j2 k x0 x2 x8 bt611.2 bt613.2 true)) else (if bt611.2 = 0 then (if bt613.2 = 0 then (if bt613.1 < bt611.1 then (dropperlaw08_IceEases.j2 k x0 x2 x8 bt611.2 bt613.2 true) else (dropperlaw08_IceEases.j2 k x0 x2 x8 bt611.2 bt613.2 false)) else (dropperlaw08_IceEases.j2 k x0 x2 x8 bt611.2 bt613.2 (bt613.2 != 5))) else (dropperlaw08_IceEases.j2 k x0 x2 x8 bt611.2 bt613.2 true)))))
def dropperlaw08_IceEases.j2 : Nat → List Int → List Int → List Int → Int → Int → Bool → Option (Bool)
  | 0, _, _, _, _, _, _ => none
  | k + 1, x0, x2, x8, x9, x12, x120 => if x120 = true then (some false) else ((ice_Rota.f k x0).bind fun bt615 => ((ice_Rota.f k x8).bind fun bt619 => ((ice_IsRota.f k x0 x2).bind fun bt623 => ((ice_IsRota.f k x8 x2).bind fun bt625 => (if ((bt615.2 == 0) == (x9 == 5)) = true then (if ((bt619.2 == 0) == (x12 == 5)) = true then (if bt623.2 = 0 then (if bt625.2 = 0 then (if bt623.1 = true then (if bt625.1 = true then ((dropperlaw08_Awake.f k).bind fun t627 => (some t627)) else (some false)) else ((dropperlaw08_Awake.f k).bind fun t628 => (some t628))) else (some false)) else (some false)) else (some false)) else (some false))))))
end
def dropperlaw08_IceEases.f (k : Nat) (l0 : List Int) (a1 : Int) (l2 : List Int) : Option (Bool) := (dropperref08_Valid.f k l0).bind fun t601 => (if t601 = true then (dropperlaw08_IceEases.j0 k l0 a1 l2 (decide ((l2.length : Int) > 300))) else (dropperlaw08_IceEases.j0 k l0 a1 l2 true))
theorem dropperlaw08_IceEases.mono_l : ∀ k, (∀ y0 y1 y2 y3, LeO (dropperlaw08_IceEases.j0 k y0 y1 y2 y3) (dropperlaw08_IceEases.j0 (k + 1) y0 y1 y2 y3)) ∧ (∀ y0 y1 y2 y3 y4, LeO (dropperlaw08_IceEases.j1 k y0 y1 y2 y3 y4) (dropperlaw08_IceEases.j1 (k + 1) y0 y1 y2 y3 y4)) ∧ (∀ y0 y1 y2 y3 y4 y5, LeO (dropperlaw08_IceEases.j2 k y0 y1 y2 y3 y4 y5) (dropperlaw08_IceEases.j2 (k + 1) y0 y1 y2 y3 y4 y5))
  | 0 => ⟨fun _ _ _ _ r h => by simp [dropperlaw08_IceEases.j0] at h, fun _ _ _ _ _ r h => by simp [dropperlaw08_IceEases.j1] at h, fun _ _ _ _ _ _ r h => by simp [dropperlaw08_IceEases.j2] at h⟩
  | k + 1 => by
    obtain ⟨ih0, ih1, ih2⟩ := dropperlaw08_IceEases.mono_l k
    refine ⟨?_, ?_, ?_⟩
    · intro y0 y1 y2 y3
      unfold dropperlaw08_IceEases.j0
      repeat' first
      | (with_reducible exact ih0 _ _ _ _)
      | (with_reducible exact ih1 _ _ _ _ _)
      | (with_reducible exact ih2 _ _ _ _ _ _)
      | (with_reducible exact dropperlaw08_Awake.mono _)
      | (with_reducible exact dropperlaw08_Many.mono _ _ _)
      | (with_reducible exact dropperref08_Valid.mono _ _)
      | (with_reducible exact ice_Ease.mono _ _ _)
      | (with_reducible exact ice_IsRota.mono _ _ _)
      | (with_reducible exact ice_Lasts.mono _ _)
      | (with_reducible exact ice_Rota.mono _ _)
      | (with_reducible exact LeO.refl _)
      | (with_reducible exact LeO.none _)
      | (with_reducible refine LeO.ite ?_ ?_)
      | (with_reducible refine LeO.bind ?_ (fun _ => ?_))
      | exact ih0 _ _ _ _
      | exact ih1 _ _ _ _ _
      | exact ih2 _ _ _ _ _ _
      | exact dropperlaw08_Awake.mono _
      | exact dropperlaw08_Many.mono _ _ _
      | exact dropperref08_Valid.mono _ _
      | exact ice_Ease.mono _ _ _
      | exact ice_IsRota.mono _ _ _
      | exact ice_Lasts.mono _ _
      | exact ice_Rota.mono _ _
      | exact LeO.none _
      | refine LeO.ite ?_ ?_
      | refine LeO.bind ?_ (fun _ => ?_)
    · intro y0 y1 y2 y3 y4
      unfold dropperlaw08_IceEases.j1
      repeat' first
      | (with_reducible exact ih0 _ _ _ _)
      | (with_reducible exact ih1 _ _ _ _ _)
      | (with_reducible exact ih2 _ _ _ _ _ _)
      | (with_reducible exact dropperlaw08_Awake.mono _)
      | (with_reducible exact dropperlaw08_Many.mono _ _ _)
      | (with_reducible exact dropperref08_Valid.mono _ _)
      | (with_reducible exact ice_Ease.mono _ _ _)
      | (with_reducible exact ice_IsRota.mono _ _ _)
      | (with_reducible exact ice_Lasts.mono _ _)
      | (with_reducible exact ice_Rota.mono _ _)
      | (with_reducible exact LeO.refl _)
      | (with_reducible exact LeO.none _)
      | (with_reducible refine LeO.ite ?_ ?_)
      | (with_reducible refine LeO.bind ?_ (fun _ => ?_))
      | exact ih0 _ _ _ _
      | exact ih1 _ _ _ _ _
      | exact ih2 _ _ _ _ _ _
      | exact dropperlaw08_Awake.mono _
      | exact dropperlaw08_Many.mono _ _ _
      | exact dropperref08_Valid.mono _ _
      | exact ice_Ease.mono _ _ _
      | exact ice_IsRota.mono _ _ _
      | exact ice_Lasts.mono _ _
      | exact ice_Rota.mono _ _
      | exact LeO.none _
      | refine LeO.ite ?_ ?_
      | refine LeO.bind ?_ (fun _ => ?_)
    · intro y0 y1 y2 y3 y4 y5
      unfold dropperlaw08_IceEases.j2
      repeat' first
      | (with_reducible exact ih0 _ _ _ _)
      | (with_reducible exact ih1 _ _ _ _ _)
      | (with_reducible exact ih2 _ _ _ _ _ _)
      | (with_reducible exact dropperlaw08_Awake.mono _)
      | (with_reducible exact dropperlaw08_Many.mono _ _ _)
      | (with_reducible exact dropperref08_Valid.mono _ _)
      | (with_reducible exact ice_Ease.mono _ _ _)
      | (with_reducible exact ice_IsRota.mono _ _ _)
      | (with_reducible exact ice_Lasts.mono _ _)
      | (with_reducible exact ice_Rota.mono _ _)
      | (with_reducible exact LeO.refl _)
      | (with_reducible exact LeO.none _)
      | (with_reducible refine LeO.ite ?_ ?_)
      | (with_reducible refine LeO.bind ?_ (fun _ => ?_))
      | exact ih0 _ _ _ _
      | exact ih1 _ _ _ _ _
      | exact ih2 _ _ _ _ _ _
      | exact dropperlaw08_Awake.mono _
      | exact dropperlaw08_Many.mono _ _ _
      | exact dropperref08_Valid.mono _ _
      | exact ice_Ease.mono _ _ _
      | exact ice_IsRota.mono _ _ _
      | exact ice_Lasts.mono _ _
      | exact ice_Rota.mono _ _
      | exact LeO.none _
      | refine LeO.ite ?_ ?_
      | refine LeO.bind ?_ (fun _ => ?_)
theorem dropperlaw08_IceEases.mono : ∀ a0 a1 a2 k, LeO (dropperlaw08_IceEases.f k a0 a1 a2) (dropperlaw08_IceEases.f (k + 1) a0 a1 a2) := by
  intro a0 a1 a2 k
  obtain ⟨ih0, ih1, ih2⟩ := dropperlaw08_IceEases.mono_l k
  unfold dropperlaw08_IceEases.f
  repeat' first
      | (with_reducible exact ih0 _ _ _ _)
      | (with_reducible exact ih1 _ _ _ _ _)
      | (with_reducible exact ih2 _ _ _ _ _ _)
      | (with_reducible exact dropperlaw08_Awake.mono _)
      | (with_reducible exact dropperlaw08_Many.mono _ _ _)
      | (with_reducible exact dropperref08_Valid.mono _ _)
      | (with_reducible exact ice_Ease.mono _ _ _)
      | (with_reducible exact ice_IsRota.mono _ _ _)
      | (with_reducible exact ice_Lasts.mono _ _)
      | (with_reducible exact ice_Rota.mono _ _)
      | (with_reducible exact LeO.refl _)
      | (with_reducible exact LeO.none _)
      | (with_reducible refine LeO.ite ?_ ?_)
      | (with_reducible refine LeO.bind ?_ (fun _ => ?_))
      | exact ih0 _ _ _ _
      | exact ih1 _ _ _ _ _
      | exact ih2 _ _ _ _ _ _
      | exact dropperlaw08_Awake.mono _
      | exact dropperlaw08_Many.mono _ _ _
      | exact dropperref08_Valid.mono _ _
      | exact ice_Ease.mono _ _ _
      | exact ice_IsRota.mono _ _ _
      | exact ice_Lasts.mono _ _
      | exact ice_Rota.mono _ _
      | exact LeO.none _
      | refine LeO.ite ?_ ?_
      | refine LeO.bind ?_ (fun _ => ?_)
theorem dropperlaw08_IceEases.j2_no (k : Nat) (y0_ : List Int) (y2_ : List Int) (y8_ : List Int) (y9_ : Int) (y12_ : Int) : dropperlaw08_IceEases.j2 k y0_ y2_ y8_ y9_ y12_ true ≠ some true := by
  cases k with
  | zero => simp [dropperlaw08_IceEases.j2]
  | succ k => rw [dropperlaw08_IceEases.j2]; simp
set_option maxHeartbeats 8000000 in
set_option maxRecDepth 100000 in
theorem dropperlaw08_IceEases.calls (k : Nat) (A0 : Option Addr) (c0 : Nat) (l0 : List Int) (a1 : Int) (A2 : Option Addr) (c2 : Nat) (l2 : List Int) (r : Bool) (w : World) (hr0 : Kd.C (Kd.int .i64) w A0 l0.length l0) (hc0 : l0.length ≤ c0) (hr2 : Kd.C (Kd.int .i64) w A2 l2.length l2) (hc2 : l2.length ≤ c2) (h : dropperlaw08_IceEases.f k l0 a1 l2 = some r) (hT : r = true) :
    Calls Try.prog 10 #[.slice A0 l0.length c0, .int .u8 a1, .slice A2 l2.length c2] w fun e w' => e = .returned (.bool r) ∧ Below w.heap.size w w' := by
  have HR0 := Aside0.mk hr0
  have HC0 := Aside0.mk hc0
  clear hr0 hc0
  have HR2 := Aside0.mk hr2
  have HC2 := Aside0.mk hc2
  clear hr2 hc2
  have HB := Aside0.mk (Below.refl w.heap.size w)
  have H : ((dropperref08_Valid.f k l0).bind fun t601 => (if t601 = true then (dropperlaw08_IceEases.j0 k l0 a1 l2 (decide ((l2.length : Int) > 300))) else (dropperlaw08_IceEases.j0 k l0 a1 l2 true))) = some r := h
  clear h
  have HC4 := Aside0.mk H
  clear H
  go_enter Try.func10, Try.ntmps10
  go_upto_region 1 with (fail)
  go_cut [28] (fun v28 wc => ∃ (kq : Nat) (x28_3 : Bool), v28 = .bool x28_3 ∧ Aside0 (dropperlaw08_IceEases.j0 kq l0 a1 l2 x28_3 = some r) ∧ Aside0 (kq ≤ k) ∧ Aside0 (Below w.heap.size w wc))
  case first =>
    have H := HC4.out
    clear HC4
    replace H := Option.bind_eq_some_iff.mp H
    obtain ⟨t601, A50, H⟩ := H
    replace H : (if t601 = true then (dropperlaw08_IceEases.j0 k l0 a1 l2 (decide ((l2.length : Int) > 300))) else (dropperlaw08_IceEases.j0 k l0 a1 l2 true)) = some r := H
    have A5 := Aside0.mk A50
    clear A50
    by_cases c6 : t601 = true
    · subst c6
      have H1 : (dropperlaw08_IceEases.j0 k l0 a1 l2 (decide ((l2.length : Int) > 300))) = some r := by rw [if_pos rfl] at H; exact H
      clear H
      have H := H1
      clear H1
      have H' := Aside0.mk H
      clear H
      go_wp2_with (first | ((with_reducible refine gate_callee (f := 30) rfl ?_); refine goesL_ (some 22) rfl rfl Try.func30 (by kernel_rfl) rfl #[.slice A0 l0.length c0] rfl (by (try simp only [List.map_toArray, List.map_cons, List.map_nil]); first | done | rfl | (simp only [List.length_drop, List.length_take]; rfl)) ?_; (with_reducible refine (dropperref08_Valid.calls k _ _ l0 true _ ?side1 ?side2 A5.out).mono ?_); (case side1 => repeat (first | exact (Kd.C_below HR0.out HB.out) | (with_reducible refine Kd.C_alloc ?_ _) | (with_reducible refine Kd.C_drewN ?_ _) | (with_reducible refine Kd.C_drew ?_))); (case side2 => exact HC0.out); rintro e w' ⟨rfl, ⟨nd, rfl⟩⟩; refine ⟨_, rfl, ?_⟩))
      go_meet
      case rel => exact ⟨_, (decide ((l2.length : Int) > 300)), (by first | rfl | (simp; done) | (simp [*]; done)), H', ⟨by first | omega | exact Nat.le_refl _⟩, ⟨by repeat (first | (with_reducible first | exact HB.out | apply below_alloc | apply pw_below_drewN | apply below_drew1) | exact HB.out)⟩⟩
    replace c6 := Bool.eq_false_iff.mpr c6
    subst c6
    have H1 : (dropperlaw08_IceEases.j0 k l0 a1 l2 true) = some r := by rw [if_neg (show ¬ (false = true) by decide)] at H; exact H
    clear H
    have H := H1
    clear H1
    have H' := Aside0.mk H
    clear H
    go_wp2_with (first | ((with_reducible refine gate_callee (f := 30) rfl ?_); refine goesL_ (some 22) rfl rfl Try.func30 (by kernel_rfl) rfl #[.slice A0 l0.length c0] rfl (by (try simp only [List.map_toArray, List.map_cons, List.map_nil]); first | done | rfl | (simp only [List.length_drop, List.length_take]; rfl)) ?_; (with_reducible refine (dropperref08_Valid.calls k _ _ l0 false _ ?side1 ?side2 A5.out).mono ?_); (case side1 => repeat (first | exact (Kd.C_below HR0.out HB.out) | (with_reducible refine Kd.C_alloc ?_ _) | (with_reducible refine Kd.C_drewN ?_ _) | (with_reducible refine Kd.C_drew ?_))); (case side2 => exact HC0.out); rintro e w' ⟨rfl, ⟨nd, rfl⟩⟩; refine ⟨_, rfl, ?_⟩))
    go_meet
    case rel => exact ⟨_, (true), (by first | rfl | (simp; done) | (simp [*]; done)), H', ⟨by first | omega | exact Nat.le_refl _⟩, ⟨by repeat (first | (with_reducible first | exact HB.out | apply below_alloc | apply pw_below_drewN | apply below_drew1) | exact HB.out)⟩⟩
  case rest =>
    clear HC4
    try clear c1
    try clear c2
    try clear p2
    try clear c3
    try clear c6
    obtain ⟨kq, x28_3, rfl, HA, HJ3, HB⟩ := hcut
    cases kq with
    | zero => exact absurd HA.out (by simp [dropperlaw08_IceEases.j0])
    | succ kj3 =>
      have H := HA.out
      clear HA
      simp only [dropperlaw08_IceEases.j0] at H
      by_cases c7 : x28_3 = true
      · subst c7
        have H1 : ((dropperlaw08_Awake.f kj3).bind fun t602 => (some t602)) = some r := by rw [if_pos rfl] at H; exact H
        clear H
        have H := H1
        clear H1
        replace H := Option.bind_eq_some_iff.mp H
        obtain ⟨t602, A80, H⟩ := H
        replace H : (some t602) = some r := H
        have A8 := Aside0.mk A80
        clear A80
        clear hT
        obtain rfl := Option.some.inj H
        go_wp2_with (first | ((with_reducible refine gate_callee (f := 12) rfl ?_); refine goesL_ (some 29) rfl rfl Try.func12 (by kernel_rfl) rfl #[] rfl (by (try simp only [List.map_toArray, List.map_cons, List.map_nil]); first | done | rfl | (simp only [List.length_drop, List.length_take]; rfl)) ?_; (with_reducible refine (dropperlaw08_Awake.calls kj3  t602 _ A8.out).mono ?_); rintro e w9 ⟨rfl, hb⟩; refine ⟨_, rfl, ?_⟩; have n0_ := Aside0.mk (below_step (by repeat (first | (with_reducible first | exact HB.out | apply below_alloc | apply pw_below_drewN | apply below_drew1) | exact HB.out)) hb); clear HB; have HB := n0_; clear n0_; (try clear hb); (try clear hb2); (try clear hk); (try clear hi)))
        go_ret
        exact ⟨by first | rfl | (simp [errW_none, errW_some] <;> rfl) | (simp [*, errW_none, errW_some] <;> rfl), by repeat (first | (with_reducible first | exact HB.out | apply below_alloc | apply pw_below_drewN | apply below_drew1) | exact HB.out)⟩
      replace c7 := Bool.eq_false_iff.mpr c7
      subst c7
      have H1 : (if (l0.length : Int) = 0 then (none) else ((ice_Ease.f kj3 l0 (Int.tmod (wrap64 (a1)) (l0.length : Int))).bind fun bt603 => (if 0 ≤ (Int.tmod (wrap64 (a1)) (l0.length : Int)) then (if (Int.tmod (wrap64 (a1)) (l0.length : Int)) < (l0.length : Int) then (if (rd l0 (Int.tmod (wrap64 (a1)) (l0.length : Int))) = 8 then (if bt603.2 = 2 then ((dropperlaw08_Awake.f kj3).bind fun t608 => (some t608)) else (some false)) else (if bt603.2 = 0 then (if (bt603.1.length : Int) = (l0.length : Int) then ((dropperlaw08_Many.f kj3 bt603.1 ([] : List (List Int))).bind fun t609 => (dropperlaw08_IceEases.j1 kj3 l0 l2 bt603.1 bt603.2 t609)) else (dropperlaw08_IceEases.j1 kj3 l0 l2 bt603.1 bt603.2 true)) else (dropperlaw08_IceEases.j1 kj3 l0 l2 bt603.1 bt603.2 true))) else (none)) else (none)))) = some r := by rw [if_neg (show ¬ (false = true) by decide)] at H; exact H
      clear H
      have H := H1
      clear H1
      by_cases c10 : (l0.length : Int) = 0
      · rw [if_pos c10] at H
        exact absurd H (by simp)
      rw [if_neg c10] at H
      have c10b0 : ((l0.length : Int) == 0) = false := beq_eq_false_iff_ne.mpr c10
      have c10b1 : ((l0.length : Int) != 0) = true := bne_iff_ne.mpr c10
      have c10b2 : ¬ (l0 = []) := fun h_ => c10 (by rw [h_]; rfl)
      replace H := Option.bind_eq_some_iff.mp H
      obtain ⟨⟨t603, t604⟩, A110, H⟩ := H
      replace H : (if 0 ≤ (Int.tmod (wrap64 (a1)) (l0.length : Int)) then (if (Int.tmod (wrap64 (a1)) (l0.length : Int)) < (l0.length : Int) then (if (rd l0 (Int.tmod (wrap64 (a1)) (l0.length : Int))) = 8 then (if t604 = 2 then ((dropperlaw08_Awake.f kj3).bind fun t608 => (some t608)) else (some false)) else (if t604 = 0 then (if (t603.length : Int) = (l0.length : Int) then ((dropperlaw08_Many.f kj3 t603 ([] : List (List Int))).bind fun t609 => (dropperlaw08_IceEases.j1 kj3 l0 l2 t603 t604 t609)) else (dropperlaw08_IceEases.j1 kj3 l0 l2 t603 t604 true)) else (dropperlaw08_IceEases.j1 kj3 l0 l2 t603 t604 true))) else (none)) else (none)) = some r := H
      have A11 := Aside0.mk A110
      clear A110
      obtain ⟨ji12, hji12⟩ : ∃ j_ : Int, (Int.tmod (wrap64 (a1)) (l0.length : Int)) = j_ := ⟨_, rfl⟩
      replace H : (if 0 ≤ (ji12) then (if (ji12) < (l0.length : Int) then (if (rd l0 (ji12)) = 8 then (if t604 = 2 then ((dropperlaw08_Awake.f kj3).bind fun t608 => (some t608)) else (some false)) else (if t604 = 0 then (if (t603.length : Int) = (l0.length : Int) then ((dropperlaw08_Many.f kj3 t603 ([] : List (List Int))).bind fun t609 => (dropperlaw08_IceEases.j1 kj3 l0 l2 t603 t604 t609)) else (dropperlaw08_IceEases.j1 kj3 l0 l2 t603 t604 true)) else (dropperlaw08_IceEases.j1 kj3 l0 l2 t603 t604 true))) else (none)) else (none)) = some r := by first | (rw [hji12] at H; exact H) | (simp only [hji12] at H ⊢; exact H)
      (try rw [hji12] at A11)
      by_cases c13 : 0 ≤ (ji12)
      rotate_left
      · rw [if_neg c13] at H
        exact absurd H (by simp)

      rw [if_pos c13] at H
      have c13b0 : decide (0 ≤ (ji12)) = true := decide_eq_true c13
      clear c13
      by_cases c14 : (ji12) < (l0.length : Int)
      rotate_left
      · rw [if_neg c14] at H
        exact absurd H (by simp)
      rw [if_pos c14] at H
      have c14b0 : decide ((ji12) < (l0.length : Int)) = true := decide_eq_true c14
      clear c14
      by_cases c15 : (rd l0 (ji12)) = 8
      · rw [if_pos c15] at H
        have c15b0 : ((rd l0 (ji12)) == 8) = true := beq_iff_eq.mpr c15
        have c15b1 : ((rd l0 (ji12)) != 8) = false := bne_eq_false_iff_eq.mpr c15
        clear c15
        by_cases c16 : t604 = 2
        rotate_left
        · rw [if_neg c16] at H
          have c16b0 : (t604 == 2) = false := beq_eq_false_iff_ne.mpr c16
          have c16b1 : (t604 != 2) = true := bne_iff_ne.mpr c16
          exact absurd (hT.symm.trans (Option.some.inj H).symm) (by decide)
        rw [if_pos c16] at H
        have c16b0 : (t604 == 2) = true := beq_iff_eq.mpr c16
        have c16b1 : (t604 != 2) = false := bne_eq_false_iff_eq.mpr c16
        clear c16
        replace H := Option.bind_eq_some_iff.mp H
        obtain ⟨t608, A170, H⟩ := H
        replace H : (some t608) = some r := H
        have A17 := Aside0.mk A170
        clear A170
        clear hT
        obtain rfl := Option.some.inj H
        go_wp2_with (first | ((with_reducible refine gate_callee (f := 18) rfl ?_); refine goesL_ (some 38) rfl rfl Try.func18 (by kernel_rfl) rfl #[.slice A0 l0.length c0, .int .i64 ji12] rfl (by (try simp only [List.map_toArray, List.map_cons, List.map_nil]); first | done | (simp only [hji12]; rfl) | rfl | (simp only [List.length_drop, List.length_take]; rfl)) ?_; (with_reducible refine (ice_Ease.calls kj3 _ _ l0 ji12 t603 t604 _ ?side1 ?side2 A11.out).mono ?_); (case side1 => repeat (first | exact (Kd.C_below HR0.out HB.out) | (with_reducible refine Kd.C_alloc ?_ _) | (with_reducible refine Kd.C_drewN ?_ _) | (with_reducible refine Kd.C_drew ?_))); (case side2 => exact HC0.out); rintro e w18 ⟨v605, rfl, ho0, hb⟩; refine ⟨_, rfl, ?_⟩; have n0_ := Aside0.mk (Kd.R_lower ho0 (below_size (by repeat (first | (with_reducible first | exact HB.out | apply below_alloc | apply pw_below_drewN | apply below_drew1) | exact HB.out)))); have n1_ := Aside0.mk (below_step (by repeat (first | (with_reducible first | exact HB.out | apply below_alloc | apply pw_below_drewN | apply below_drew1) | exact HB.out)) hb); clear HB; have HO606 := n0_; have HB := n1_; clear n0_ n1_; (try clear hb); (try clear hb2); (try clear hk); (try clear hi); (try clear ho0); have p607 : 0 ≤ ((ji12) : Int) := of_decide_eq_true (by first | (with_reducible assumption) | assumption); have q607 : (ji12) < (l0.length : Int) := of_decide_eq_true (by first | (with_reducible assumption) | assumption); obtain ⟨ad607, e607, hx607_0⟩ := Kd.at_int HR0.out (ji12) p607 q607; cases e607; replace hx607_0 := (HB.out.cell (World.block_lt_of_cell? w _ hx607_0)).trans hx607_0; replace p607 := eq_true p607; replace q607 := eq_true q607) | (go_at_call 12; (with_reducible refine (dropperlaw08_Awake.calls kj3  t608 _ A17.out).mono ?_); rintro e w19 ⟨rfl, hb⟩; have n0_ := Aside0.mk (Kd.R_below (by (with_reducible repeat (first | apply Kd.R_alloc | apply Kd.R_drewN | apply Kd.R_drew)); exact HO606.out) hb); have n1_ := Aside0.mk (below_step (by repeat (first | (with_reducible first | exact HB.out | apply below_alloc | apply pw_below_drewN | apply below_drew1) | exact HB.out)) hb); clear HO606; clear HB; have HO606 := n0_; have HB := n1_; clear n0_ n1_; (try clear hb); (try clear hb2); (try clear hk); (try clear hi)))
        go_ret
        exact ⟨by first | rfl | (simp [errW_none, errW_some] <;> rfl) | (simp only [← hji12]; first | rfl | (simp [errW_none, errW_some] <;> rfl)) | (simp [*, errW_none, errW_some] <;> rfl), by repeat (first | (with_reducible first | exact HB.out | apply below_alloc | apply pw_below_drewN | apply below_drew1) | exact HB.out)⟩
      rw [if_neg c15] at H
      have c15b0 : ((rd l0 (ji12)) == 8) = false := beq_eq_false_iff_ne.mpr c15
      have c15b1 : ((rd l0 (ji12)) != 8) = true := bne_iff_ne.mpr c15
      have HC20 := Aside0.mk H
      clear H
      go_upto_region 7 with (first | ((with_reducible refine gate_callee (f := 18) rfl ?_); refine goesL_ (some 38) rfl rfl Try.func18 (by kernel_rfl) rfl #[.slice A0 l0.length c0, .int .i64 ji12] rfl (by (try simp only [List.map_toArray, List.map_cons, List.map_nil]); first | done | (simp only [hji12]; rfl) | rfl | (simp only [List.length_drop, List.length_take]; rfl)) ?_; (with_reducible refine (ice_Ease.calls kj3 _ _ l0 ji12 t603 t604 _ ?side1 ?side2 A11.out).mono ?_); (case side1 => repeat (first | exact (Kd.C_below HR0.out HB.out) | (with_reducible refine Kd.C_alloc ?_ _) | (with_reducible refine Kd.C_drewN ?_ _) | (with_reducible refine Kd.C_drew ?_))); (case side2 => exact HC0.out); rintro e w21 ⟨v605, rfl, ho0, hb⟩; refine ⟨_, rfl, ?_⟩; have n0_ := Aside0.mk (Kd.R_lower ho0 (below_size (by repeat (first | (with_reducible first | exact HB.out | apply below_alloc | apply pw_below_drewN | apply below_drew1) | exact HB.out)))); have n1_ := Aside0.mk (below_step (by repeat (first | (with_reducible first | exact HB.out | apply below_alloc | apply pw_below_drewN | apply below_drew1) | exact HB.out)) hb); clear HB; have HO606 := n0_; have HB := n1_; clear n0_ n1_; (try clear hb); (try clear hb2); (try clear hk); (try clear hi); (try clear ho0); have p607 : 0 ≤ ((ji12) : Int) := of_decide_eq_true (by first | (with_reducible assumption) | assumption); have q607 : (ji12) < (l0.length : Int) := of_decide_eq_true (by first | (with_reducible assumption) | assumption); obtain ⟨ad607, e607, hx607_0⟩ := Kd.at_int HR0.out (ji12) p607 q607; cases e607; replace hx607_0 := (HB.out.cell (World.block_lt_of_cell? w _ hx607_0)).trans hx607_0; replace p607 := eq_true p607; replace q607 := eq_true q607))
      (try simp only [Act.put, List.setIfInBounds_toArray, List.set_cons_zero, List.set_cons_succ])
      go_cut [63] (fun v63 wc => ∃ (kq : Nat) (x63_19 : Bool), v63 = .bool x63_19 ∧ Aside0 (dropperlaw08_IceEases.j1 kq l0 l2 t603 t604 x63_19 = some r) ∧ Aside0 (kq ≤ kj3) ∧ Aside0 (Kd.R (Kd.int .i64) 3 wc w.heap.size (fun _ => True) v605 t603) ∧ Aside0 (Below w.heap.size w wc))
      case first =>
        have H := HC20.out
        clear HC20
        by_cases c22 : t604 = 0
        rotate_left
        · rw [if_neg c22] at H
          have c22b0 : (t604 == 0) = false := beq_eq_false_iff_ne.mpr c22
          have c22b1 : (t604 != 0) = true := bne_iff_ne.mpr c22
          (first | rw [c22b0] | (simp only [i64_w, i32_w]; rw [c22b0]) | skip)
          have H' := Aside0.mk H
          clear H
          go_wp2
          go_meet
          case rel => exact ⟨_, (true), (by first | rfl | (simp; done) | (simp [*]; done)), H', ⟨by have := HJ3.out; first | omega | exact Nat.le_refl _⟩, ⟨by (with_reducible repeat (first | apply Kd.R_alloc | apply Kd.R_drewN | apply Kd.R_drew)); exact HO606.out⟩, ⟨by repeat (first | (with_reducible first | exact HB.out | apply below_alloc | apply pw_below_drewN | apply below_drew1) | exact HB.out)⟩⟩
        rw [if_pos c22] at H
        have c22b0 : (t604 == 0) = true := beq_iff_eq.mpr c22
        have c22b1 : (t604 != 0) = false := bne_eq_false_iff_eq.mpr c22
        clear c22
        (first | rw [c22b0] | (simp only [i64_w, i32_w]; rw [c22b0]) | skip)
        by_cases c23 : (t603.length : Int) = (l0.length : Int)
        rotate_left
        · rw [if_neg c23] at H
          have c23b0 : ((t603.length : Int) == (l0.length : Int)) = false := beq_eq_false_iff_ne.mpr c23
          have c23b1 : ((t603.length : Int) != (l0.length : Int)) = true := bne_iff_ne.mpr c23
          have c23b2 : (t603.length == l0.length) = false := by first | simpa using c23 | (simp at c23 ⊢; omega)
          have H' := Aside0.mk H
          clear H
          obtain ⟨Ao26, co26, eo26⟩ := Kd.R_slice HO606.out
          subst eo26
          go_wp2
          go_meet
          case rel => exact ⟨_, (true), (by first | rfl | (simp; done) | (simp [*]; done)), H', ⟨by have := HJ3.out; first | omega | exact Nat.le_refl _⟩, ⟨by (with_reducible repeat (first | apply Kd.R_alloc | apply Kd.R_drewN | apply Kd.R_drew)); exact HO606.out⟩, ⟨by repeat (first | (with_reducible first | exact HB.out | apply below_alloc | apply pw_below_drewN | apply below_drew1) | exact HB.out)⟩⟩
        rw [if_pos c23] at H
        have c23b0 : ((t603.length : Int) == (l0.length : Int)) = true := beq_iff_eq.mpr c23
        have c23b1 : ((t603.length : Int) != (l0.length : Int)) = false := bne_eq_false_iff_eq.mpr c23
        have c23b2 : (t603.length == l0.length) = true := by first | simpa using c23 | (simp at c23 ⊢; omega)
        clear c23
        replace H := Option.bind_eq_some_iff.mp H
        obtain ⟨t609, A240, H⟩ := H
        replace H : (dropperlaw08_IceEases.j1 kj3 l0 l2 t603 t604 t609) = some r := H
        have A24 := Aside0.mk A240
        clear A240
        have H' := Aside0.mk H
        clear H
        obtain ⟨Ao25, co25, eo25⟩ := Kd.R_slice HO606.out
        subst eo25
        go_wp2_with (first | (go_at_call 20; (refine (dropperlaw08_Many.calls kj3 _ _ t603 _ _ ([] : List (List Int)) t609 _ ?side1 ?side2 ?side3 ?side4 A24.out).mono ?_); (case side1 => repeat (first | exact (Kd.R_reads' HO606.out).2.2 | (with_reducible refine Kd.C_alloc ?_ _) | (with_reducible refine Kd.C_drewN ?_ _) | (with_reducible refine Kd.C_drew ?_))); (case side2 => exact (Kd.R_reads' HO606.out).2.1); (case side3 => exact Kd.C_nil _ _); (case side4 => exact Nat.le_refl _); rintro e w' ⟨rfl, ⟨nd, rfl⟩⟩))
        go_meet
        case rel => exact ⟨_, (t609), (by first | rfl | (simp; done) | (simp [*]; done)), H', ⟨by have := HJ3.out; first | omega | exact Nat.le_refl _⟩, ⟨by (with_reducible repeat (first | apply Kd.R_alloc | apply Kd.R_drewN | apply Kd.R_drew)); exact HO606.out⟩, ⟨by repeat (first | (with_reducible first | exact HB.out | apply below_alloc | apply pw_below_drewN | apply below_drew1) | exact HB.out)⟩⟩
      case rest =>
        clear HC20
        try clear c1
        try clear c2
        try clear p2
        try clear c3
        try clear c6
        try clear p6
        try clear q6
        try clear hx6
        try clear c7
        try clear c10
        try clear c10b0
        try clear c10b1
        try clear c10b2
        try clear c12
        try clear c13
        try clear c13b0
        try clear c14
        try clear c14b0
        try clear c15
        try clear c15b0
        try clear c15b1
        try clear c16
        try clear c16b0
        try clear c16b1
        try clear c18
        try clear c22
        try clear c22b0
        try clear c22b1
        try clear c23
        try clear c23b0
        try clear c23b1
        try clear c23b2
        try clear hx607_0
        try clear p2
        try clear p607
        try clear q607
        obtain ⟨kq, x63_19, rfl, HA, HJ19, HO_8, HB⟩ := hcut
        cases kq with
        | zero => exact absurd HA.out (by simp [dropperlaw08_IceEases.j1])
        | succ kj19 =>
          have H := HA.out
          clear HA
          simp only [dropperlaw08_IceEases.j1] at H
          by_cases c27 : x63_19 = true
          · subst c27
            have H1 : (if t604 = 0 then (if (t603.length : Int) = (l0.length : Int) then ((dropperlaw08_Awake.f kj19).bind fun t610 => (some t610)) else (some false)) else (some false)) = some r := by rw [if_pos rfl] at H; exact H
            clear H
            have H := H1
            clear H1
            by_cases c28 : t604 = 0
            rotate_left
            · rw [if_neg c28] at H
              have c28b0 : (t604 == 0) = false := beq_eq_false_iff_ne.mpr c28
              have c28b1 : (t604 != 0) = true := bne_iff_ne.mpr c28
              exact absurd (hT.symm.trans (Option.some.inj H).symm) (by decide)
            rw [if_pos c28] at H
            have c28b0 : (t604 == 0) = true := beq_iff_eq.mpr c28
            have c28b1 : (t604 != 0) = false := bne_eq_false_iff_eq.mpr c28
            clear c28
            by_cases c29 : (t603.length : Int) = (l0.length : Int)
            rotate_left
            · rw [if_neg c29] at H
              have c29b0 : ((t603.length : Int) == (l0.length : Int)) = false := beq_eq_false_iff_ne.mpr c29
              have c29b1 : ((t603.length : Int) != (l0.length : Int)) = true := bne_iff_ne.mpr c29
              have c29b2 : (t603.length == l0.length) = false := by first | simpa using c29 | (simp at c29 ⊢; omega)
              exact absurd (hT.symm.trans (Option.some.inj H).symm) (by decide)
            rw [if_pos c29] at H
            have c29b0 : ((t603.length : Int) == (l0.length : Int)) = true := beq_iff_eq.mpr c29
            have c29b1 : ((t603.length : Int) != (l0.length : Int)) = false := bne_eq_false_iff_eq.mpr c29
            have c29b2 : (t603.length == l0.length) = true := by first | simpa using c29 | (simp at c29 ⊢; omega)
            clear c29
            replace H := Option.bind_eq_some_iff.mp H
            obtain ⟨t610, A300, H⟩ := H
            replace H : (some t610) = some r := H
            have A30 := Aside0.mk A300
            clear A300
            clear hT
            obtain rfl := Option.some.inj H
            obtain ⟨Ao31, co31, eo31⟩ := Kd.R_slice HO_8.out
            subst eo31
            go_wp2_with (first | (go_at_call 12; (with_reducible refine (dropperlaw08_Awake.calls kj19  t610 _ A30.out).mono ?_); rintro e w32 ⟨rfl, hb⟩; have n0_ := Aside0.mk (Kd.R_below (by (with_reducible repeat (first | apply Kd.R_alloc | apply Kd.R_drewN | apply Kd.R_drew)); exact HO_8.out) hb); have n1_ := Aside0.mk (below_step (by repeat (first | (with_reducible first | exact HB.out | apply below_alloc | apply pw_below_drewN | apply below_drew1) | exact HB.out)) hb); clear HO_8; clear HB; have HO_8 := n0_; have HB := n1_; clear n0_ n1_; (try clear hb); (try clear hb2); (try clear hk); (try clear hi)))
            go_ret
            exact ⟨by first | rfl | (simp [errW_none, errW_some] <;> rfl) | (simp only [← hji12]; first | rfl | (simp [errW_none, errW_some] <;> rfl)) | (simp [*, errW_none, errW_some] <;> rfl), by repeat (first | (with_reducible first | exact HB.out | apply below_alloc | apply pw_below_drewN | apply below_drew1) | exact HB.out)⟩
          replace c27 := Bool.eq_false_iff.mpr c27
          subst c27
          have H1 : ((ice_Lasts.f kj19 l0).bind fun bt611 => ((ice_Lasts.f kj19 t603).bind fun bt613 => (if bt611.2 = 5 then (if bt613.2 = 5 then (if bt611.2 = 0 then (if bt613.2 = 0 then (if bt613.1 < bt611.1 then (dropperlaw08_IceEases.j2 kj19 l0 l2 t603 bt611.2 bt613.2 true) else (dropperlaw08_IceEases.j2 kj19 l0 l2 t603 bt611.2 bt613.2 false)) else (dropperlaw08_IceEases.j2 kj19 l0 l2 t603 bt611.2 bt613.2 (bt613.2 != 5))) else (if bt613.2 = 0 then (dropperlaw08_IceEases.j2 kj19 l0 l2 t603 bt611.2 bt613.2 false) else (dropperlaw08_IceEases.j2 kj19 l0 l2 t603 bt611.2 bt613.2 (bt613.2 != 5)))) else (dropperlaw08_IceEases.j2 kj19 l0 l2 t603 bt611.2 bt613.2 true)) else (if bt611.2 = 0 then (if bt613.2 = 0 then (if bt613.1 < bt611.1 then (dropperlaw08_IceEases.j2 kj19 l0 l2 t603 bt611.2 bt613.2 true) else (dropperlaw08_IceEases.j2 kj19 l0 l2 t603 bt611.2 bt613.2 false)) else (dropperlaw08_IceEases.j2 kj19 l0 l2 t603 bt611.2 bt613.2 (bt613.2 != 5))) else (dropperlaw08_IceEases.j2 kj19 l0 l2 t603 bt611.2 bt613.2 true))))) = some r := by rw [if_neg (show ¬ (false = true) by decide)] at H; exact H
          clear H
          have H := H1
          clear H1
          replace H := Option.bind_eq_some_iff.mp H
          obtain ⟨⟨t611, t612⟩, A330, H⟩ := H
          replace H : ((ice_Lasts.f kj19 t603).bind fun bt613 => (if t612 = 5 then (if bt613.2 = 5 then (if t612 = 0 then (if bt613.2 = 0 then (if bt613.1 < t611 then (dropperlaw08_IceEases.j2 kj19 l0 l2 t603 t612 bt613.2 true) else (dropperlaw08_IceEases.j2 kj19 l0 l2 t603 t612 bt613.2 false)) else (dropperlaw08_IceEases.j2 kj19 l0 l2 t603 t612 bt613.2 (bt613.2 != 5))) else (if bt613.2 = 0 then (dropperlaw08_IceEases.j2 kj19 l0 l2 t603 t612 bt613.2 false) else (dropperlaw08_IceEases.j2 kj19 l0 l2 t603 t612 bt613.2 (bt613.2 != 5)))) else (dropperlaw08_IceEases.j2 kj19 l0 l2 t603 t612 bt613.2 true)) else (if t612 = 0 then (if bt613.2 = 0 then (if bt613.1 < t611 then (dropperlaw08_IceEases.j2 kj19 l0 l2 t603 t612 bt613.2 true) else (dropperlaw08_IceEases.j2 kj19 l0 l2 t603 t612 bt613.2 false)) else (dropperlaw08_IceEases.j2 kj19 l0 l2 t603 t612 bt613.2 (bt613.2 != 5))) else (dropperlaw08_IceEases.j2 kj19 l0 l2 t603 t612 bt613.2 true)))) = some r := H
          have A33 := Aside0.mk A330
          clear A330
          replace H := Option.bind_eq_some_iff.mp H
          obtain ⟨⟨t613, t614⟩, A340, H⟩ := H
          replace H : (if t612 = 5 then (if t614 = 5 then (if t612 = 0 then (if t614 = 0 then (if t613 < t611 then (dropperlaw08_IceEases.j2 kj19 l0 l2 t603 t612 t614 true) else (dropperlaw08_IceEases.j2 kj19 l0 l2 t603 t612 t614 false)) else (dropperlaw08_IceEases.j2 kj19 l0 l2 t603 t612 t614 (t614 != 5))) else (if t614 = 0 then (dropperlaw08_IceEases.j2 kj19 l0 l2 t603 t612 t614 false) else (dropperlaw08_IceEases.j2 kj19 l0 l2 t603 t612 t614 (t614 != 5)))) else (dropperlaw08_IceEases.j2 kj19 l0 l2 t603 t612 t614 true)) else (if t612 = 0 then (if t614 = 0 then (if t613 < t611 then (dropperlaw08_IceEases.j2 kj19 l0 l2 t603 t612 t614 true) else (dropperlaw08_IceEases.j2 kj19 l0 l2 t603 t612 t614 false)) else (dropperlaw08_IceEases.j2 kj19 l0 l2 t603 t612 t614 (t614 != 5))) else (dropperlaw08_IceEases.j2 kj19 l0 l2 t603 t612 t614 true))) = some r := H
          have A34 := Aside0.mk A340
          clear A340
          have HC35 := Aside0.mk H
          clear H
          go_upto_region 11 with (first | ((with_reducible refine gate_callee (f := 43) rfl ?_); refine goesL_ (some 78) rfl rfl Try.func43 (by kernel_rfl) rfl #[.slice (some ad607) l0.length c0] rfl (by (try simp only [List.map_toArray, List.map_cons, List.map_nil]); first | done | rfl | (simp only [List.length_drop, List.length_take]; rfl)) ?_; (with_reducible refine (ice_Lasts.calls kj19 _ _ l0 t611 t612 _ ?side1 ?side2 A33.out).mono ?_); (case side1 => repeat (first | exact (Kd.C_below HR0.out HB.out) | (with_reducible refine Kd.C_alloc ?_ _) | (with_reducible refine Kd.C_drewN ?_ _) | (with_reducible refine Kd.C_drew ?_))); (case side2 => exact HC0.out); rintro e w36 ⟨rfl, hb⟩; refine ⟨_, rfl, ?_⟩; have n0_ := Aside0.mk (Kd.R_below (by (with_reducible repeat (first | apply Kd.R_alloc | apply Kd.R_drewN | apply Kd.R_drew)); exact HO_8.out) hb); have n1_ := Aside0.mk (below_step (by repeat (first | (with_reducible first | exact HB.out | apply below_alloc | apply pw_below_drewN | apply below_drew1) | exact HB.out)) hb); clear HO_8; clear HB; have HO_8 := n0_; have HB := n1_; clear n0_ n1_; (try clear hb); (try clear hb2); (try clear hk); (try clear hi); obtain ⟨Ao37, co37, eo37⟩ := Kd.R_slice HO_8.out; subst eo37) | ((with_reducible refine gate_callee (f := 43) rfl ?_); refine goesL_ (some 83) rfl rfl Try.func43 (by kernel_rfl) rfl #[.slice Ao37 t603.length co37] rfl (by (try simp only [List.map_toArray, List.map_cons, List.map_nil]); first | done | rfl | (simp only [List.length_drop, List.length_take]; rfl)) ?_; (with_reducible refine (ice_Lasts.calls kj19 _ _ t603 t613 t614 _ ?side1 ?side2 A34.out).mono ?_); (case side1 => repeat (first | exact (Kd.R_reads' HO_8.out).2.2 | (with_reducible refine Kd.C_alloc ?_ _) | (with_reducible refine Kd.C_drewN ?_ _) | (with_reducible refine Kd.C_drew ?_))); (case side2 => exact (Kd.R_reads' HO_8.out).2.1); rintro e w38 ⟨rfl, hb⟩; refine ⟨_, rfl, ?_⟩; have n0_ := Aside0.mk (Kd.R_below (by (with_reducible repeat (first | apply Kd.R_alloc | apply Kd.R_drewN | apply Kd.R_drew)); exact HO_8.out) hb); have n1_ := Aside0.mk (below_step (by repeat (first | (with_reducible first | exact HB.out | apply below_alloc | apply pw_below_drewN | apply below_drew1) | exact HB.out)) hb); clear HO_8; clear HB; have HO_8 := n0_; have HB := n1_; clear n0_ n1_; (try clear hb); (try clear hb2); (try clear hk); (try clear hi)))
          (try simp only [Act.put, List.setIfInBounds_toArray, List.set_cons_zero, List.set_cons_succ])
          go_cut [120] (fun v120 wc => ∃ (kq : Nat) (x120_34 : Bool), v120 = .bool x120_34 ∧ Aside0 (dropperlaw08_IceEases.j2 kq l0 l2 t603 t612 t614 x120_34 = some r) ∧ Aside0 (kq ≤ kj19) ∧ Aside0 (Kd.R (Kd.int .i64) 3 wc w.heap.size (fun _ => True) (.slice Ao37 t603.length co37) t603) ∧ Aside0 (Below w.heap.size w wc))
          case first =>
            have H := HC35.out
            clear HC35
            by_cases c39 : t612 = 5
            rotate_left
            · rw [if_neg c39] at H
              have c39b0 : (t612 == 5) = false := beq_eq_false_iff_ne.mpr c39
              have c39b1 : (t612 != 5) = true := bne_iff_ne.mpr c39
              (first | rw [c39b0] | (simp only [i64_w, i32_w]; rw [c39b0]) | skip)
              by_cases c45 : t612 = 0
              rotate_left
              · rw [if_neg c45] at H
                have c45b0 : (t612 == 0) = false := beq_eq_false_iff_ne.mpr c45
                have c45b1 : (t612 != 0) = true := bne_iff_ne.mpr c45
                exact absurd (H.trans (congrArg some hT)) (dropperlaw08_IceEases.j2_no _ _ _ _ _ _)
              rw [if_pos c45] at H
              have c45b0 : (t612 == 0) = true := beq_iff_eq.mpr c45
              have c45b1 : (t612 != 0) = false := bne_eq_false_iff_eq.mpr c45
              clear c45
              by_cases c46 : t614 = 0
              rotate_left
              · rw [if_neg c46] at H
                have c46b0 : (t614 == 0) = false := beq_eq_false_iff_ne.mpr c46
                have c46b1 : (t614 != 0) = true := bne_iff_ne.mpr c46
                have H' := Aside0.mk H
                clear H
                go_wp2
                go_meet
                case rel => exact ⟨_, ((t614 != 5)), (by first | rfl | (simp; done) | (simp [*]; done)), H', ⟨by have := HJ3.out; have := HJ19.out; first | omega | exact Nat.le_refl _⟩, ⟨by (with_reducible repeat (first | apply Kd.R_alloc | apply Kd.R_drewN | apply Kd.R_drew)); exact HO_8.out⟩, ⟨by repeat (first | (with_reducible first | exact HB.out | apply below_alloc | apply pw_below_drewN | apply below_drew1) | exact HB.out)⟩⟩
              rw [if_pos c46] at H
              have c46b0 : (t614 == 0) = true := beq_iff_eq.mpr c46
              have c46b1 : (t614 != 0) = false := bne_eq_false_iff_eq.mpr c46
              clear c46
              by_cases c47 : t613 < t611
              · rw [if_pos c47] at H
                have c47b0 : decide (t613 < t611) = true := decide_eq_true c47
                clear c47
                exact absurd (H.trans (congrArg some hT)) (dropperlaw08_IceEases.j2_no _ _ _ _ _ _)
              rw [if_neg c47] at H
              have c47b0 : decide (t613 < t611) = false := decide_eq_false c47
              clear c47
              have H' := Aside0.mk H
              clear H
              go_wp2
              go_meet
              case rel => exact ⟨_, (false), (by first | rfl | (simp; done) | (simp [*]; done)), H', ⟨by have := HJ3.out; have := HJ19.out; first | omega | exact Nat.le_refl _⟩, ⟨by (with_reducible repeat (first | apply Kd.R_alloc | apply Kd.R_drewN | apply Kd.R_drew)); exact HO_8.out⟩, ⟨by repeat (first | (with_reducible first | exact HB.out | apply below_alloc | apply pw_below_drewN | apply below_drew1) | exact HB.out)⟩⟩
            rw [if_pos c39] at H
            have c39b0 : (t612 == 5) = true := beq_iff_eq.mpr c39
            have c39b1 : (t612 != 5) = false := bne_eq_false_iff_eq.mpr c39
            clear c39
            (first | rw [c39b0] | (simp only [i64_w, i32_w]; rw [c39b0]) | skip)
            by_cases c40 : t614 = 5
            rotate_left
            · rw [if_neg c40] at H
              have c40b0 : (t614 == 5) = false := beq_eq_false_iff_ne.mpr c40
              have c40b1 : (t614 != 5) = true := bne_iff_ne.mpr c40
              exact absurd (H.trans (congrArg some hT)) (dropperlaw08_IceEases.j2_no _ _ _ _ _ _)
            rw [if_pos c40] at H
            have c40b0 : (t614 == 5) = true := beq_iff_eq.mpr c40
            have c40b1 : (t614 != 5) = false := bne_eq_false_iff_eq.mpr c40
            clear c40
            by_cases c41 : t612 = 0
            rotate_left
            · rw [if_neg c41] at H
              have c41b0 : (t612 == 0) = false := beq_eq_false_iff_ne.mpr c41
              have c41b1 : (t612 != 0) = true := bne_iff_ne.mpr c41
              by_cases c44 : t614 = 0
              rotate_left
              · rw [if_neg c44] at H
                have c44b0 : (t614 == 0) = false := beq_eq_false_iff_ne.mpr c44
                have c44b1 : (t614 != 0) = true := bne_iff_ne.mpr c44
                have H' := Aside0.mk H
                clear H
                go_wp2
                go_meet
                case rel => exact ⟨_, ((t614 != 5)), (by first | rfl | (simp; done) | (simp [*]; done)), H', ⟨by have := HJ3.out; have := HJ19.out; first | omega | exact Nat.le_refl _⟩, ⟨by (with_reducible repeat (first | apply Kd.R_alloc | apply Kd.R_drewN | apply Kd.R_drew)); exact HO_8.out⟩, ⟨by repeat (first | (with_reducible first | exact HB.out | apply below_alloc | apply pw_below_drewN | apply below_drew1) | exact HB.out)⟩⟩
              rw [if_pos c44] at H
              have c44b0 : (t614 == 0) = true := beq_iff_eq.mpr c44
              have c44b1 : (t614 != 0) = false := bne_eq_false_iff_eq.mpr c44
              clear c44
              have H' := Aside0.mk H
              clear H
              go_wp2
              go_meet
              case rel => exact ⟨_, (false), (by first | rfl | (simp; done) | (simp [*]; done)), H', ⟨by have := HJ3.out; have := HJ19.out; first | omega | exact Nat.le_refl _⟩, ⟨by (with_reducible repeat (first | apply Kd.R_alloc | apply Kd.R_drewN | apply Kd.R_drew)); exact HO_8.out⟩, ⟨by repeat (first | (with_reducible first | exact HB.out | apply below_alloc | apply pw_below_drewN | apply below_drew1) | exact HB.out)⟩⟩
            rw [if_pos c41] at H
            have c41b0 : (t612 == 0) = true := beq_iff_eq.mpr c41
            have c41b1 : (t612 != 0) = false := bne_eq_false_iff_eq.mpr c41
            clear c41
            by_cases c42 : t614 = 0
            rotate_left
            · rw [if_neg c42] at H
              have c42b0 : (t614 == 0) = false := beq_eq_false_iff_ne.mpr c42
              have c42b1 : (t614 != 0) = true := bne_iff_ne.mpr c42
              have H' := Aside0.mk H
              clear H
              go_wp2
              go_meet
              case rel => exact ⟨_, ((t614 != 5)), (by first | rfl | (simp; done) | (simp [*]; done)), H', ⟨by have := HJ3.out; have := HJ19.out; first | omega | exact Nat.le_refl _⟩, ⟨by (with_reducible repeat (first | apply Kd.R_alloc | apply Kd.R_drewN | apply Kd.R_drew)); exact HO_8.out⟩, ⟨by repeat (first | (with_reducible first | exact HB.out | apply below_alloc | apply pw_below_drewN | apply below_drew1) | exact HB.out)⟩⟩
            rw [if_pos c42] at H
            have c42b0 : (t614 == 0) = true := beq_iff_eq.mpr c42
            have c42b1 : (t614 != 0) = false := bne_eq_false_iff_eq.mpr c42
            clear c42
            by_cases c43 : t613 < t611
            · rw [if_pos c43] at H
              have c43b0 : decide (t613 < t611) = true := decide_eq_true c43
              clear c43
              exact absurd (H.trans (congrArg some hT)) (dropperlaw08_IceEases.j2_no _ _ _ _ _ _)
            rw [if_neg c43] at H
            have c43b0 : decide (t613 < t611) = false := decide_eq_false c43
            clear c43
            have H' := Aside0.mk H
            clear H
            go_wp2
            go_meet
            case rel => exact ⟨_, (false), (by first | rfl | (simp; done) | (simp [*]; done)), H', ⟨by have := HJ3.out; have := HJ19.out; first | omega | exact Nat.le_refl _⟩, ⟨by (with_reducible repeat (first | apply Kd.R_alloc | apply Kd.R_drewN | apply Kd.R_drew)); exact HO_8.out⟩, ⟨by repeat (first | (with_reducible first | exact HB.out | apply below_alloc | apply pw_below_drewN | apply below_drew1) | exact HB.out)⟩⟩
          case rest =>
            clear HC35
            try clear c1
            try clear c2
            try clear p2
            try clear c3
            try clear c4
            try clear c6
            try clear p6
            try clear q6
            try clear hx6
            try clear c7
            try clear c10
            try clear c10b0
            try clear c10b1
            try clear c10b2
            try clear c12
            try clear c13
            try clear c13b0
            try clear c14
            try clear c14b0
            try clear c15
            try clear c15b0
            try clear c15b1
            try clear c16
            try clear c16b0
            try clear c16b1
            try clear c18
            try clear c22
            try clear c22b0
            try clear c22b1
            try clear c23
            try clear c23b0
            try clear c23b1
            try clear c23b2
            try clear c27
            try clear c28
            try clear c28b0
            try clear c28b1
            try clear c29
            try clear c29b0
            try clear c29b1
            try clear c29b2
            try clear c30
            try clear c39
            try clear c39b0
            try clear c39b1
            try clear c40
            try clear c40b0
            try clear c40b1
            try clear c41
            try clear c41b0
            try clear c41b1
            try clear c42
            try clear c42b0
            try clear c42b1
            try clear c43
            try clear c43b0
            try clear c44
            try clear c44b0
            try clear c44b1
            try clear c45
            try clear c45b0
            try clear c45b1
            try clear c46
            try clear c46b0
            try clear c46b1
            try clear c47
            try clear c47b0
            try clear hx607_0
            try clear p2
            try clear p6
            try clear p607
            try clear q6
            try clear q607
            obtain ⟨kq, x120_34, rfl, HA, HJ34, HO_8, HB⟩ := hcut
            cases kq with
            | zero => exact absurd HA.out (by simp [dropperlaw08_IceEases.j2])
            | succ kj34 =>
              have H := HA.out
              clear HA
              simp only [dropperlaw08_IceEases.j2] at H
              by_cases c48 : x120_34 = true
              · subst c48
                have H1 : (some false) = some r := by rw [if_pos rfl] at H; exact H
                clear H
                have H := H1
                clear H1
                exact absurd (hT.symm.trans (Option.some.inj H).symm) (by decide)
              replace c48 := Bool.eq_false_iff.mpr c48
              subst c48
              have H1 : ((ice_Rota.f kj34 l0).bind fun bt615 => ((ice_Rota.f kj34 t603).bind fun bt619 => ((ice_IsRota.f kj34 l0 l2).bind fun bt623 => ((ice_IsRota.f kj34 t603 l2).bind fun bt625 => (if ((bt615.2 == 0) == (t612 == 5)) = true then (if ((bt619.2 == 0) == (t614 == 5)) = true then (if bt623.2 = 0 then (if bt625.2 = 0 then (if bt623.1 = true then (if bt625.1 = true then ((dropperlaw08_Awake.f kj34).bind fun t627 => (some t627)) else (some false)) else ((dropperlaw08_Awake.f kj34).bind fun t628 => (some t628))) else (some false)) else (some false)) else (some false)) else (some false)))))) = some r := by rw [if_neg (show ¬ (false = true) by decide)] at H; exact H
              clear H
              have H := H1
              clear H1
              replace H := Option.bind_eq_some_iff.mp H
              obtain ⟨⟨t615, t616⟩, A490, H⟩ := H
              replace H : ((ice_Rota.f kj34 t603).bind fun bt619 => ((ice_IsRota.f kj34 l0 l2).bind fun bt623 => ((ice_IsRota.f kj34 t603 l2).bind fun bt625 => (if ((t616 == 0) == (t612 == 5)) = true then (if ((bt619.2 == 0) == (t614 == 5)) = true then (if bt623.2 = 0 then (if bt625.2 = 0 then (if bt623.1 = true then (if bt625.1 = true then ((dropperlaw08_Awake.f kj34).bind fun t627 => (some t627)) else (some false)) else ((dropperlaw08_Awake.f kj34).bind fun t628 => (some t628))) else (some false)) else (some false)) else (some false)) else (some false))))) = some r := H
              have A49 := Aside0.mk A490
              clear A490
              replace H := Option.bind_eq_some_iff.mp H
              obtain ⟨⟨t619, t620⟩, A500, H⟩ := H
              replace H : ((ice_IsRota.f kj34 l0 l2).bind fun bt623 => ((ice_IsRota.f kj34 t603 l2).bind fun bt625 => (if ((t616 == 0) == (t612 == 5)) = true then (if ((t620 == 0) == (t614 == 5)) = true then (if bt623.2 = 0 then (if bt625.2 = 0 then (if bt623.1 = true then (if bt625.1 = true then ((dropperlaw08_Awake.f kj34).bind fun t627 => (some t627)) else (some false)) else ((dropperlaw08_Awake.f kj34).bind fun t628 => (some t628))) else (some false)) else (some false)) else (some false)) else (some false)))) = some r := H
              have A50 := Aside0.mk A500
              clear A500
              replace H := Option.bind_eq_some_iff.mp H
              obtain ⟨⟨t623, t624⟩, A510, H⟩ := H
              replace H : ((ice_IsRota.f kj34 t603 l2).bind fun bt625 => (if ((t616 == 0) == (t612 == 5)) = true then (if ((t620 == 0) == (t614 == 5)) = true then (if t624 = 0 then (if bt625.2 = 0 then (if t623 = true then (if bt625.1 = true then ((dropperlaw08_Awake.f kj34).bind fun t627 => (some t627)) else (some false)) else ((dropperlaw08_Awake.f kj34).bind fun t628 => (some t628))) else (some false)) else (some false)) else (some false)) else (some false))) = some r := H
              have A51 := Aside0.mk A510
              clear A510
              replace H := Option.bind_eq_some_iff.mp H
              obtain ⟨⟨t625, t626⟩, A520, H⟩ := H
              replace H : (if ((t616 == 0) == (t612 == 5)) = true then (if ((t620 == 0) == (t614 == 5)) = true then (if t624 = 0 then (if t626 = 0 then (if t623 = true then (if t625 = true then ((dropperlaw08_Awake.f kj34).bind fun t627 => (some t627)) else (some false)) else ((dropperlaw08_Awake.f kj34).bind fun t628 => (some t628))) else (some false)) else (some false)) else (some false)) else (some false)) = some r := H
              have A52 := Aside0.mk A520
              clear A520
              by_cases c53 : ((t616 == 0) == (t612 == 5)) = true
              rotate_left
              · rw [if_neg c53] at H
                have c53b0 : ((t616 == 0) == (t612 == 5)) = false := by simpa using c53
                (try (have c53b1 : decide ((t616 == 0) = (t612 == 5)) = false := by simpa using c53))
                (try (have c53b2 : ((t616 == 0) == (t612 == 5)) = false := by simpa using c53))
                (try (have c53b3 : ¬ ((t616 == 0) = (t612 == 5)) := by simpa using c53))
                clear c53
                exact absurd (hT.symm.trans (Option.some.inj H).symm) (by decide)
              rw [if_pos c53] at H
              have c53b0 : ((t616 == 0) == (t612 == 5)) = true := c53
              (try (have c53b1 : decide ((t616 == 0) = (t612 == 5)) = true := by simpa using c53))
              (try (have c53b2 : ((t616 == 0) == (t612 == 5)) = true := by simpa using c53))
              clear c53
              by_cases c54 : ((t620 == 0) == (t614 == 5)) = true
              rotate_left
              · rw [if_neg c54] at H
                have c54b0 : ((t620 == 0) == (t614 == 5)) = false := by simpa using c54
                (try (have c54b1 : decide ((t620 == 0) = (t614 == 5)) = false := by simpa using c54))
                (try (have c54b2 : ((t620 == 0) == (t614 == 5)) = false := by simpa using c54))
                (try (have c54b3 : ¬ ((t620 == 0) = (t614 == 5)) := by simpa using c54))
                clear c54
                exact absurd (hT.symm.trans (Option.some.inj H).symm) (by decide)
              rw [if_pos c54] at H
              have c54b0 : ((t620 == 0) == (t614 == 5)) = true := c54
              (try (have c54b1 : decide ((t620 == 0) = (t614 == 5)) = true := by simpa using c54))
              (try (have c54b2 : ((t620 == 0) == (t614 == 5)) = true := by simpa using c54))
              clear c54
              by_cases c55 : t624 = 0
              rotate_left
              · rw [if_neg c55] at H
                have c55b0 : (t624 == 0) = false := beq_eq_false_iff_ne.mpr c55
                have c55b1 : (t624 != 0) = true := bne_iff_ne.mpr c55
                exact absurd (hT.symm.trans (Option.some.inj H).symm) (by decide)
              rw [if_pos c55] at H
              have c55b0 : (t624 == 0) = true := beq_iff_eq.mpr c55
              have c55b1 : (t624 != 0) = false := bne_eq_false_iff_eq.mpr c55
              clear c55
              by_cases c56 : t626 = 0
              rotate_left
              · rw [if_neg c56] at H
                have c56b0 : (t626 == 0) = false := beq_eq_false_iff_ne.mpr c56
                have c56b1 : (t626 != 0) = true := bne_iff_ne.mpr c56
                exact absurd (hT.symm.trans (Option.some.inj H).symm) (by decide)
              rw [if_pos c56] at H
              have c56b0 : (t626 == 0) = true := beq_iff_eq.mpr c56
              have c56b1 : (t626 != 0) = false := bne_eq_false_iff_eq.mpr c56
              clear c56
              by_cases c57 : t623 = true
              rotate_left
              · replace c57 := Bool.eq_false_iff.mpr c57
                subst c57
                have H1 : ((dropperlaw08_Awake.f kj34).bind fun t628 => (some t628)) = some r := by rw [if_neg (show ¬ (false = true) by decide)] at H; exact H
                clear H
                have H := H1
                clear H1
                replace H := Option.bind_eq_some_iff.mp H
                obtain ⟨t628, A650, H⟩ := H
                replace H : (some t628) = some r := H
                have A65 := Aside0.mk A650
                clear A650
                clear hT
                obtain rfl := Option.some.inj H
                go_wp2_with (first | ((with_reducible refine gate_callee (f := 45) rfl ?_); refine goesL_ (some 123) rfl rfl Try.func45 (by kernel_rfl) rfl #[.slice (some ad607) l0.length c0] rfl (by (try simp only [List.map_toArray, List.map_cons, List.map_nil]); first | done | rfl | (simp only [List.length_drop, List.length_take]; rfl)) ?_; (with_reducible refine (ice_Rota.calls kj34 _ _ l0 t615 t616 _ ?side1 ?side2 A49.out).mono ?_); (case side1 => repeat (first | exact (Kd.C_below HR0.out HB.out) | (with_reducible refine Kd.C_alloc ?_ _) | (with_reducible refine Kd.C_drewN ?_ _) | (with_reducible refine Kd.C_drew ?_))); (case side2 => exact HC0.out); rintro e w66 ⟨v617, rfl, ho0, hb⟩; refine ⟨_, rfl, ?_⟩; have n0_ := Aside0.mk (Kd.R_elder' (by (with_reducible repeat (first | apply Kd.R_alloc | apply Kd.R_drewN | apply Kd.R_drew)); exact HO_8.out) (Kd.Q_base ho0) hb); have n1_ := Aside0.mk (Kd.Q_lower (Kd.Q_new' ho0 (Kd.R_lt (by (with_reducible repeat (first | apply Kd.R_alloc | apply Kd.R_drewN | apply Kd.R_drew)); exact HO_8.out))) (below_size (by repeat (first | (with_reducible first | exact HB.out | apply below_alloc | apply pw_below_drewN | apply below_drew1) | exact HB.out)))); have n2_ := Aside0.mk (below_step (by repeat (first | (with_reducible first | exact HB.out | apply below_alloc | apply pw_below_drewN | apply below_drew1) | exact HB.out)) hb); clear HO_8; clear HB; have HO_8 := n0_; have HO618 := n1_; have HB := n2_; clear n0_ n1_ n2_; (try clear hb); (try clear hb2); (try clear hk); (try clear hi); (try clear ho0)) | ((with_reducible refine gate_callee (f := 45) rfl ?_); refine goesL_ (some 128) rfl rfl Try.func45 (by kernel_rfl) rfl #[.slice Ao37 t603.length co37] rfl (by (try simp only [List.map_toArray, List.map_cons, List.map_nil]); first | done | rfl | (simp only [List.length_drop, List.length_take]; rfl)) ?_; (with_reducible refine (ice_Rota.calls kj34 _ _ t603 t619 t620 _ ?side1 ?side2 A50.out).mono ?_); (case side1 => repeat (first | exact (Kd.R_reads' HO_8.out).2.2 | (with_reducible refine Kd.C_alloc ?_ _) | (with_reducible refine Kd.C_drewN ?_ _) | (with_reducible refine Kd.C_drew ?_))); (case side2 => exact (Kd.R_reads' HO_8.out).2.1); rintro e w67 ⟨v621, rfl, ho0, hb⟩; refine ⟨_, rfl, ?_⟩; have n0_ := Aside0.mk (Kd.R_elder' (by (with_reducible repeat (first | apply Kd.R_alloc | apply Kd.R_drewN | apply Kd.R_drew)); exact HO_8.out) (Kd.Q_base ho0) hb); have n1_ := Aside0.mk (Kd.Q_elder' (by (with_reducible repeat (first | apply Kd.Q_alloc | apply Kd.Q_drewN | apply Kd.Q_drew)); exact HO618.out) (Kd.Q_base ho0) hb); have n2_ := Aside0.mk (Kd.Q_lower (Kd.Q_new' (Kd.Q_new' ho0 (Kd.R_lt (by (with_reducible repeat (first | apply Kd.R_alloc | apply Kd.R_drewN | apply Kd.R_drew)); exact HO_8.out))) (Kd.Q_lt (by (with_reducible repeat (first | apply Kd.Q_alloc | apply Kd.Q_drewN | apply Kd.Q_drew)); exact HO618.out))) (below_size (by repeat (first | (with_reducible first | exact HB.out | apply below_alloc | apply pw_below_drewN | apply below_drew1) | exact HB.out)))); have n3_ := Aside0.mk (below_step (by repeat (first | (with_reducible first | exact HB.out | apply below_alloc | apply pw_below_drewN | apply below_drew1) | exact HB.out)) hb); clear HO_8; clear HO618; clear HB; have HO_8 := n0_; have HO618 := n1_; have HO622 := n2_; have HB := n3_; clear n0_ n1_ n2_ n3_; (try clear hb); (try clear hb2); (try clear hk); (try clear hi); (try clear ho0)) | ((with_reducible refine gate_callee (f := 27) rfl ?_); refine goesL_ (some 134) rfl rfl Try.func27 (by kernel_rfl) rfl #[.slice (some ad607) l0.length c0, .slice A2 l2.length c2] rfl (by (try simp only [List.map_toArray, List.map_cons, List.map_nil]); first | done | rfl | (simp only [List.length_drop, List.length_take]; rfl)) ?_; (with_reducible refine (ice_IsRota.calls kj34 _ _ l0 _ _ l2 false t624 _ ?side1 ?side2 ?side3 ?side4 A51.out).mono ?_); (case side1 => repeat (first | exact (Kd.C_below HR0.out HB.out) | (with_reducible refine Kd.C_alloc ?_ _) | (with_reducible refine Kd.C_drewN ?_ _) | (with_reducible refine Kd.C_drew ?_))); (case side2 => exact HC0.out); (case side3 => repeat (first | exact (Kd.C_below HR2.out HB.out) | (with_reducible refine Kd.C_alloc ?_ _) | (with_reducible refine Kd.C_drewN ?_ _) | (with_reducible refine Kd.C_drew ?_))); (case side4 => exact HC2.out); rintro e w68 ⟨rfl, hb⟩; refine ⟨_, rfl, ?_⟩; have n0_ := Aside0.mk (Kd.R_below (by (with_reducible repeat (first | apply Kd.R_alloc | apply Kd.R_drewN | apply Kd.R_drew)); exact HO_8.out) hb); have n1_ := Aside0.mk (Kd.Q_below (by (with_reducible repeat (first | apply Kd.Q_alloc | apply Kd.Q_drewN | apply Kd.Q_drew)); exact HO618.out) hb); have n2_ := Aside0.mk (Kd.Q_below (by (with_reducible repeat (first | apply Kd.Q_alloc | apply Kd.Q_drewN | apply Kd.Q_drew)); exact HO622.out) hb); have n3_ := Aside0.mk (below_step (by repeat (first | (with_reducible first | exact HB.out | apply below_alloc | apply pw_below_drewN | apply below_drew1) | exact HB.out)) hb); clear HO_8; clear HO618; clear HO622; clear HB; have HO_8 := n0_; have HO618 := n1_; have HO622 := n2_; have HB := n3_; clear n0_ n1_ n2_ n3_; (try clear hb); (try clear hb2); (try clear hk); (try clear hi)) | ((with_reducible refine gate_callee (f := 27) rfl ?_); refine goesL_ (some 140) rfl rfl Try.func27 (by kernel_rfl) rfl #[.slice Ao37 t603.length co37, .slice A2 l2.length c2] rfl (by (try simp only [List.map_toArray, List.map_cons, List.map_nil]); first | done | rfl | (simp only [List.length_drop, List.length_take]; rfl)) ?_; (with_reducible refine (ice_IsRota.calls kj34 _ _ t603 _ _ l2 t625 t626 _ ?side1 ?side2 ?side3 ?side4 A52.out).mono ?_); (case side1 => repeat (first | exact (Kd.R_reads' HO_8.out).2.2 | (with_reducible refine Kd.C_alloc ?_ _) | (with_reducible refine Kd.C_drewN ?_ _) | (with_reducible refine Kd.C_drew ?_))); (case side2 => exact (Kd.R_reads' HO_8.out).2.1); (case side3 => repeat (first | exact (Kd.C_below HR2.out HB.out) | (with_reducible refine Kd.C_alloc ?_ _) | (with_reducible refine Kd.C_drewN ?_ _) | (with_reducible refine Kd.C_drew ?_))); (case side4 => exact HC2.out); rintro e w69 ⟨rfl, hb⟩; refine ⟨_, rfl, ?_⟩; have n0_ := Aside0.mk (Kd.R_below (by (with_reducible repeat (first | apply Kd.R_alloc | apply Kd.R_drewN | apply Kd.R_drew)); exact HO_8.out) hb); have n1_ := Aside0.mk (Kd.Q_below (by (with_reducible repeat (first | apply Kd.Q_alloc | apply Kd.Q_drewN | apply Kd.Q_drew)); exact HO618.out) hb); have n2_ := Aside0.mk (Kd.Q_below (by (with_reducible repeat (first | apply Kd.Q_alloc | apply Kd.Q_drewN | apply Kd.Q_drew)); exact HO622.out) hb); have n3_ := Aside0.mk (below_step (by repeat (first | (with_reducible first | exact HB.out | apply below_alloc | apply pw_below_drewN | apply below_drew1) | exact HB.out)) hb); clear HO_8; clear HO618; clear HO622; clear HB; have HO_8 := n0_; have HO618 := n1_; have HO622 := n2_; have HB := n3_; clear n0_ n1_ n2_ n3_; (try clear hb); (try clear hb2); (try clear hk); (try clear hi)) | (go_at_call 12; (with_reducible refine (dropperlaw08_Awake.calls kj34  t628 _ A65.out).mono ?_); rintro e w70 ⟨rfl, hb⟩; have n0_ := Aside0.mk (Kd.R_below (by (with_reducible repeat (first | apply Kd.R_alloc | apply Kd.R_drewN | apply Kd.R_drew)); exact HO_8.out) hb); have n1_ := Aside0.mk (Kd.Q_below (by (with_reducible repeat (first | apply Kd.Q_alloc | apply Kd.Q_drewN | apply Kd.Q_drew)); exact HO618.out) hb); have n2_ := Aside0.mk (Kd.Q_below (by (with_reducible repeat (first | apply Kd.Q_alloc | apply Kd.Q_drewN | apply Kd.Q_drew)); exact HO622.out) hb); have n3_ := Aside0.mk (below_step (by repeat (first | (with_reducible first | exact HB.out | apply below_alloc | apply pw_below_drewN | apply below_drew1) | exact HB.out)) hb); clear HO_8; clear HO618; clear HO622; clear HB; have HO_8 := n0_; have HO618 := n1_; have HO622 := n2_; have HB := n3_; clear n0_ n1_ n2_ n3_; (try clear hb); (try clear hb2); (try clear hk); (try clear hi)))
                go_ret
                exact ⟨by first | rfl | (simp [errW_none, errW_some] <;> rfl) | (simp only [← hji12]; first | rfl | (simp [errW_none, errW_some] <;> rfl)) | (simp [*, errW_none, errW_some] <;> rfl), by repeat (first | (with_reducible first | exact HB.out | apply below_alloc | apply pw_below_drewN | apply below_drew1) | exact HB.out)⟩
              subst c57
              have H1 : (if t625 = true then ((dropperlaw08_Awake.f kj34).bind fun t627 => (some t627)) else (some false)) = some r := by rw [if_pos rfl] at H; exact H
              clear H
              have H := H1
              clear H1
              by_cases c58 : t625 = true
              rotate_left
              · replace c58 := Bool.eq_false_iff.mpr c58
                subst c58
                have H1 : (some false) = some r := by rw [if_neg (show ¬ (false = true) by decide)] at H; exact H
                clear H
                have H := H1
                clear H1
                exact absurd (hT.symm.trans (Option.some.inj H).symm) (by decide)
              subst c58
              have H1 : ((dropperlaw08_Awake.f kj34).bind fun t627 => (some t627)) = some r := by rw [if_pos rfl] at H; exact H
              clear H
              have H := H1
              clear H1
              replace H := Option.bind_eq_some_iff.mp H
              obtain ⟨t627, A590, H⟩ := H
              replace H : (some t627) = some r := H
              have A59 := Aside0.mk A590
              clear A590
              clear hT
              obtain rfl := Option.some.inj H
              go_wp2_with (first | ((with_reducible refine gate_callee (f := 45) rfl ?_); refine goesL_ (some 123) rfl rfl Try.func45 (by kernel_rfl) rfl #[.slice (some ad607) l0.length c0] rfl (by (try simp only [List.map_toArray, List.map_cons, List.map_nil]); first | done | rfl | (simp only [List.length_drop, List.length_take]; rfl)) ?_; (with_reducible refine (ice_Rota.calls kj34 _ _ l0 t615 t616 _ ?side1 ?side2 A49.out).mono ?_); (case side1 => repeat (first | exact (Kd.C_below HR0.out HB.out) | (with_reducible refine Kd.C_alloc ?_ _) | (with_reducible refine Kd.C_drewN ?_ _) | (with_reducible refine Kd.C_drew ?_))); (case side2 => exact HC0.out); rintro e w60 ⟨v617, rfl, ho0, hb⟩; refine ⟨_, rfl, ?_⟩; have n0_ := Aside0.mk (Kd.R_elder' (by (with_reducible repeat (first | apply Kd.R_alloc | apply Kd.R_drewN | apply Kd.R_drew)); exact HO_8.out) (Kd.Q_base ho0) hb); have n1_ := Aside0.mk (Kd.Q_lower (Kd.Q_new' ho0 (Kd.R_lt (by (with_reducible repeat (first | apply Kd.R_alloc | apply Kd.R_drewN | apply Kd.R_drew)); exact HO_8.out))) (below_size (by repeat (first | (with_reducible first | exact HB.out | apply below_alloc | apply pw_below_drewN | apply below_drew1) | exact HB.out)))); have n2_ := Aside0.mk (below_step (by repeat (first | (with_reducible first | exact HB.out | apply below_alloc | apply pw_below_drewN | apply below_drew1) | exact HB.out)) hb); clear HO_8; clear HB; have HO_8 := n0_; have HO618 := n1_; have HB := n2_; clear n0_ n1_ n2_; (try clear hb); (try clear hb2); (try clear hk); (try clear hi); (try clear ho0)) | ((with_reducible refine gate_callee (f := 45) rfl ?_); refine goesL_ (some 128) rfl rfl Try.func45 (by kernel_rfl) rfl #[.slice Ao37 t603.length co37] rfl (by (try simp only [List.map_toArray, List.map_cons, List.map_nil]); first | done | rfl | (simp only [List.length_drop, List.length_take]; rfl)) ?_; (with_reducible refine (ice_Rota.calls kj34 _ _ t603 t619 t620 _ ?side1 ?side2 A50.out).mono ?_); (case side1 => repeat (first | exact (Kd.R_reads' HO_8.out).2.2 | (with_reducible refine Kd.C_alloc ?_ _) | (with_reducible refine Kd.C_drewN ?_ _) | (with_reducible refine Kd.C_drew ?_))); (case side2 => exact (Kd.R_reads' HO_8.out).2.1); rintro e w61 ⟨v621, rfl, ho0, hb⟩; refine ⟨_, rfl, ?_⟩; have n0_ := Aside0.mk (Kd.R_elder' (by (with_reducible repeat (first | apply Kd.R_alloc | apply Kd.R_drewN | apply Kd.R_drew)); exact HO_8.out) (Kd.Q_base ho0) hb); have n1_ := Aside0.mk (Kd.Q_elder' (by (with_reducible repeat (first | apply Kd.Q_alloc | apply Kd.Q_drewN | apply Kd.Q_drew)); exact HO618.out) (Kd.Q_base ho0) hb); have n2_ := Aside0.mk (Kd.Q_lower (Kd.Q_new' (Kd.Q_new' ho0 (Kd.R_lt (by (with_reducible repeat (first | apply Kd.R_alloc | apply Kd.R_drewN | apply Kd.R_drew)); exact HO_8.out))) (Kd.Q_lt (by (with_reducible repeat (first | apply Kd.Q_alloc | apply Kd.Q_drewN | apply Kd.Q_drew)); exact HO618.out))) (below_size (by repeat (first | (with_reducible first | exact HB.out | apply below_alloc | apply pw_below_drewN | apply below_drew1) | exact HB.out)))); have n3_ := Aside0.mk (below_step (by repeat (first | (with_reducible first | exact HB.out | apply below_alloc | apply pw_below_drewN | apply below_drew1) | exact HB.out)) hb); clear HO_8; clear HO618; clear HB; have HO_8 := n0_; have HO618 := n1_; have HO622 := n2_; have HB := n3_; clear n0_ n1_ n2_ n3_; (try clear hb); (try clear hb2); (try clear hk); (try clear hi); (try clear ho0)) | ((with_reducible refine gate_callee (f := 27) rfl ?_); refine goesL_ (some 134) rfl rfl Try.func27 (by kernel_rfl) rfl #[.slice (some ad607) l0.length c0, .slice A2 l2.length c2] rfl (by (try simp only [List.map_toArray, List.map_cons, List.map_nil]); first | done | rfl | (simp only [List.length_drop, List.length_take]; rfl)) ?_; (with_reducible refine (ice_IsRota.calls kj34 _ _ l0 _ _ l2 true t624 _ ?side1 ?side2 ?side3 ?side4 A51.out).mono ?_); (case side1 => repeat (first | exact (Kd.C_below HR0.out HB.out) | (with_reducible refine Kd.C_alloc ?_ _) | (with_reducible refine Kd.C_drewN ?_ _) | (with_reducible refine Kd.C_drew ?_))); (case side2 => exact HC0.out); (case side3 => repeat (first | exact (Kd.C_below HR2.out HB.out) | (with_reducible refine Kd.C_alloc ?_ _) | (with_reducible refine Kd.C_drewN ?_ _) | (with_reducible refine Kd.C_drew ?_))); (case side4 => exact HC2.out); rintro e w62 ⟨rfl, hb⟩; refine ⟨_, rfl, ?_⟩; have n0_ := Aside0.mk (Kd.R_below (by (with_reducible repeat (first | apply Kd.R_alloc | apply Kd.R_drewN | apply Kd.R_drew)); exact HO_8.out) hb); have n1_ := Aside0.mk (Kd.Q_below (by (with_reducible repeat (first | apply Kd.Q_alloc | apply Kd.Q_drewN | apply Kd.Q_drew)); exact HO618.out) hb); have n2_ := Aside0.mk (Kd.Q_below (by (with_reducible repeat (first | apply Kd.Q_alloc | apply Kd.Q_drewN | apply Kd.Q_drew)); exact HO622.out) hb); have n3_ := Aside0.mk (below_step (by repeat (first | (with_reducible first | exact HB.out | apply below_alloc | apply pw_below_drewN | apply below_drew1) | exact HB.out)) hb); clear HO_8; clear HO618; clear HO622; clear HB; have HO_8 := n0_; have HO618 := n1_; have HO622 := n2_; have HB := n3_; clear n0_ n1_ n2_ n3_; (try clear hb); (try clear hb2); (try clear hk); (try clear hi)) | ((with_reducible refine gate_callee (f := 27) rfl ?_); refine goesL_ (some 140) rfl rfl Try.func27 (by kernel_rfl) rfl #[.slice Ao37 t603.length co37, .slice A2 l2.length c2] rfl (by (try simp only [List.map_toArray, List.map_cons, List.map_nil]); first | done | rfl | (simp only [List.length_drop, List.length_take]; rfl)) ?_; (with_reducible refine (ice_IsRota.calls kj34 _ _ t603 _ _ l2 true t626 _ ?side1 ?side2 ?side3 ?side4 A52.out).mono ?_); (case side1 => repeat (first | exact (Kd.R_reads' HO_8.out).2.2 | (with_reducible refine Kd.C_alloc ?_ _) | (with_reducible refine Kd.C_drewN ?_ _) | (with_reducible refine Kd.C_drew ?_))); (case side2 => exact (Kd.R_reads' HO_8.out).2.1); (case side3 => repeat (first | exact (Kd.C_below HR2.out HB.out) | (with_reducible refine Kd.C_alloc ?_ _) | (with_reducible refine Kd.C_drewN ?_ _) | (with_reducible refine Kd.C_drew ?_))); (case side4 => exact HC2.out); rintro e w63 ⟨rfl, hb⟩; refine ⟨_, rfl, ?_⟩; have n0_ := Aside0.mk (Kd.R_below (by (with_reducible repeat (first | apply Kd.R_alloc | apply Kd.R_drewN | apply Kd.R_drew)); exact HO_8.out) hb); have n1_ := Aside0.mk (Kd.Q_below (by (with_reducible repeat (first | apply Kd.Q_alloc | apply Kd.Q_drewN | apply Kd.Q_drew)); exact HO618.out) hb); have n2_ := Aside0.mk (Kd.Q_below (by (with_reducible repeat (first | apply Kd.Q_alloc | apply Kd.Q_drewN | apply Kd.Q_drew)); exact HO622.out) hb); have n3_ := Aside0.mk (below_step (by repeat (first | (with_reducible first | exact HB.out | apply below_alloc | apply pw_below_drewN | apply below_drew1) | exact HB.out)) hb); clear HO_8; clear HO618; clear HO622; clear HB; have HO_8 := n0_; have HO618 := n1_; have HO622 := n2_; have HB := n3_; clear n0_ n1_ n2_ n3_; (try clear hb); (try clear hb2); (try clear hk); (try clear hi)) | (go_at_call 12; (with_reducible refine (dropperlaw08_Awake.calls kj34  t627 _ A59.out).mono ?_); rintro e w64 ⟨rfl, hb⟩; have n0_ := Aside0.mk (Kd.R_below (by (with_reducible repeat (first | apply Kd.R_alloc | apply Kd.R_drewN | apply Kd.R_drew)); exact HO_8.out) hb); have n1_ := Aside0.mk (Kd.Q_below (by (with_reducible repeat (first | apply Kd.Q_alloc | apply Kd.Q_drewN | apply Kd.Q_drew)); exact HO618.out) hb); have n2_ := Aside0.mk (Kd.Q_below (by (with_reducible repeat (first | apply Kd.Q_alloc | apply Kd.Q_drewN | apply Kd.Q_drew)); exact HO622.out) hb); have n3_ := Aside0.mk (below_step (by repeat (first | (with_reducible first | exact HB.out | apply below_alloc | apply pw_below_drewN | apply below_drew1) | exact HB.out)) hb); clear HO_8; clear HO618; clear HO622; clear HB; have HO_8 := n0_; have HO618 := n1_; have HO622 := n2_; have HB := n3_; clear n0_ n1_ n2_ n3_; (try clear hb); (try clear hb2); (try clear hk); (try clear hi)))
              go_ret
              exact ⟨by first | rfl | (simp [errW_none, errW_some] <;> rfl) | (simp only [← hji12]; first | rfl | (simp [errW_none, errW_some] <;> rfl)) | (simp [*, errW_none, errW_some] <;> rfl), by repeat (first | (with_reducible first | exact HB.out | apply below_alloc | apply pw_below_drewN | apply below_drew1) | exact HB.out)⟩
end Go.Proofs.Ythbpibdfookbmaa.G
