-- Written by this session's driver (wip/tools/printmore.py) over the kit's print, with hand-written parts.
import Derived.Test.YtiapmkndgalgnaaGBase
import Derived.Test.YtiapmkndgalgnaaGF27
import Derived.Test.YtiapmkndgalgnaaGF14
import Derived.Test.YtiapmkndgalgnaaGF24
import Derived.Test.YtiapmkndgalgnaaGF38
import Derived.Test.YtiapmkndgalgnaaGF39
import Derived.Test.YtiapmkndgalgnaaGF41
import Derived.Test.YtiapmkndgalgnaaGF43
namespace Go.Proofs.Ytiapmkndgalgnaa.G
open Go.RowKit Go.Proofs.YtiapmkndgalgnaaW.PrintWords Go.Proofs.YtiapmkndgalgnaaW.PrintLast Go.Proofs.YtiapmkndgalgnaaW.PrintMore
attribute [local go_sem] max2_int min2_int max_two min_two max_three min_three max_four min_four   -- for this text's walks alone
set_option linter.unusedVariables false
set_option linter.unusedSimpArgs false

/-! ### dropperlaw03_ArmSides: function 10 -/
mutual
def dropperlaw03_ArmSides.j0 : Nat → List (S73) → List Int → List (S73) → List (S73) → List (S73) → Bool → Option (Bool)
  | 0, _, _, _, _, _, _ => none
  | k + 1, x0, x5, x7, x9, x11, x58 => if x58 = true then (some false) else ((arm_Mirror.f k x7).bind fun bt119 => ((arm_Turned.f k x9).bind fun bt123 => (if bt119.2 = 0 then (if bt123.2 = 0 then ((dropperlaw03_same.f k bt119.1 x0).bind fun t127 => (if t127 = true then ((dropperlaw03_same.f k bt123.1 x0).bind fun t128 => (dropperlaw03_ArmSides.j1 k x5 x7 x9 x11 (!t128))) else (dropperlaw03_ArmSides.j1 k x5 x7 x9 x11 true))) else (dropperlaw03_ArmSides.j1 k x5 x7 x9 x11 true)) else (dropperlaw03_ArmSides.j1 k x5 x7 x9 x11 true))))
def dropperlaw03_ArmSides.j1 : Nat → List Int → List (S73) → List (S73) → List (S73) → Bool → Option (Bool)
  | 0, _, _, _, _, _ => none
  | k + 1, x5, x7, x9, x11, x86 => if x86 = true then (some false) else ((arm_Pieces.f k x7).bind fun bt129 => ((arm_Pieces.f k x9).bind fun bt133 => ((arm_Pieces.f k x11).bind fun bt137 => (if bt129.2 = 0 then (if bt133.2 = 0 then (if bt137.2 = 0 then (if (bt129.1.length : Int) = (x5.length : Int) then (if (bt133.1.length : Int) = (x5.length : Int) then (if (bt137.1.length : Int) ≤ (x5.length : Int) then ((dropperlaw03_First.f k).bind fun t141 => (some t141)) else (some false)) else (some false)) else (some false)) else (some false)) else (some false)) else (some false)))))
end
def dropperlaw03_ArmSides.f (k : Nat) (l0 : List (S73)) (a1 : Int) : Option (Bool) := (dropperref03_Valid.f k l0).bind fun t101 => (if t101 = true then ((arm_Pieces.f k l0).bind fun bt103 => ((arm_Mirror.f k l0).bind fun bt107 => ((arm_Turned.f k l0).bind fun bt111 => ((arm_Widen.f k l0 (Int.tmod (wrap64 (a1)) 2001)).bind fun bt115 => (if bt103.2 = 0 then (if bt107.2 = 0 then (if bt111.2 = 0 then (dropperlaw03_ArmSides.j0 k l0 bt103.1 bt107.1 bt111.1 bt115.1 (bt115.2 != 0)) else (dropperlaw03_ArmSides.j0 k l0 bt103.1 bt107.1 bt111.1 bt115.1 true)) else (dropperlaw03_ArmSides.j0 k l0 bt103.1 bt107.1 bt111.1 bt115.1 true)) else (dropperlaw03_ArmSides.j0 k l0 bt103.1 bt107.1 bt111.1 bt115.1 true)))))) else ((dropperlaw03_First.f k).bind fun t102 => (some t102)))
theorem dropperlaw03_ArmSides.mono_l : ∀ k, (∀ y0 y1 y2 y3 y4 y5, LeO (dropperlaw03_ArmSides.j0 k y0 y1 y2 y3 y4 y5) (dropperlaw03_ArmSides.j0 (k + 1) y0 y1 y2 y3 y4 y5)) ∧ (∀ y0 y1 y2 y3 y4, LeO (dropperlaw03_ArmSides.j1 k y0 y1 y2 y3 y4) (dropperlaw03_ArmSides.j1 (k + 1) y0 y1 y2 y3 y4))
  | 0 => ⟨fun _ _ _ _ _ _ r h => by simp [dropperlaw03_ArmSides.j0] at h, fun _ _ _ _ _ r h => by simp [dropperlaw03_ArmSides.j1] at h⟩
  | k + 1 => by
    obtain ⟨ih0, ih1⟩ := dropperlaw03_ArmSides.mono_l k
    refine ⟨?_, ?_⟩
    · intro y0 y1 y2 y3 y4 y5
      unfold dropperlaw03_ArmSides.j0
      repeat' first
      | (with_reducible exact ih0 _ _ _ _ _ _)
      | (with_reducible exact ih1 _ _ _ _ _)
      | (with_reducible exact arm_Mirror.mono _ _)
      | (with_reducible exact arm_Pieces.mono _ _)
      | (with_reducible exact arm_Turned.mono _ _)
      | (with_reducible exact arm_Widen.mono _ _ _)
      | (with_reducible exact dropperlaw03_First.mono _)
      | (with_reducible exact dropperlaw03_same.mono _ _ _)
      | (with_reducible exact dropperref03_Valid.mono _ _)
      | (with_reducible exact LeO.refl _)
      | (with_reducible exact LeO.none _)
      | (with_reducible refine LeO.ite ?_ ?_)
      | (with_reducible refine LeO.bind ?_ (fun _ => ?_))
      | exact ih0 _ _ _ _ _ _
      | exact ih1 _ _ _ _ _
      | exact arm_Mirror.mono _ _
      | exact arm_Pieces.mono _ _
      | exact arm_Turned.mono _ _
      | exact arm_Widen.mono _ _ _
      | exact dropperlaw03_First.mono _
      | exact dropperlaw03_same.mono _ _ _
      | exact dropperref03_Valid.mono _ _
      | exact LeO.none _
      | refine LeO.ite ?_ ?_
      | refine LeO.bind ?_ (fun _ => ?_)
    · intro y0 y1 y2 y3 y4
      unfold dropperlaw03_ArmSides.j1
      repeat' first
      | (with_reducible exact ih0 _ _ _ _ _ _)
      | (with_reducible exact ih1 _ _ _ _ _)
      | (with_reducible exact arm_Mirror.mono _ _)
      | (with_reducible exact arm_Pieces.mono _ _)
      | (with_reducible exact arm_Turned.mono _ _)
      | (with_reducible exact arm_Widen.mono _ _ _)
      | (with_reducible exact dropperlaw03_First.mono _)
      | (with_reducible exact dropperlaw03_same.mono _ _ _)
      | (with_reducible exact dropperref03_Valid.mono _ _)
      | (with_reducible exact LeO.refl _)
      | (with_reducible exact LeO.none _)
      | (with_reducible refine LeO.ite ?_ ?_)
      | (with_reducible refine LeO.bind ?_ (fun _ => ?_))
      | exact ih0 _ _ _ _ _ _
      | exact ih1 _ _ _ _ _
      | exact arm_Mirror.mono _ _
      | exact arm_Pieces.mono _ _
      | exact arm_Turned.mono _ _
      | exact arm_Widen.mono _ _ _
      | exact dropperlaw03_First.mono _
      | exact dropperlaw03_same.mono _ _ _
      | exact dropperref03_Valid.mono _ _
      | exact LeO.none _
      | refine LeO.ite ?_ ?_
      | refine LeO.bind ?_ (fun _ => ?_)
theorem dropperlaw03_ArmSides.mono : ∀ a0 a1 k, LeO (dropperlaw03_ArmSides.f k a0 a1) (dropperlaw03_ArmSides.f (k + 1) a0 a1) := by
  intro a0 a1 k
  obtain ⟨ih0, ih1⟩ := dropperlaw03_ArmSides.mono_l k
  unfold dropperlaw03_ArmSides.f
  repeat' first
      | (with_reducible exact ih0 _ _ _ _ _ _)
      | (with_reducible exact ih1 _ _ _ _ _)
      | (with_reducible exact arm_Mirror.mono _ _)
      | (with_reducible exact arm_Pieces.mono _ _)
      | (with_reducible exact arm_Turned.mono _ _)
      | (with_reducible exact arm_Widen.mono _ _ _)
      | (with_reducible exact dropperlaw03_First.mono _)
      | (with_reducible exact dropperlaw03_same.mono _ _ _)
      | (with_reducible exact dropperref03_Valid.mono _ _)
      | (with_reducible exact LeO.refl _)
      | (with_reducible exact LeO.none _)
      | (with_reducible refine LeO.ite ?_ ?_)
      | (with_reducible refine LeO.bind ?_ (fun _ => ?_))
      | exact ih0 _ _ _ _ _ _
      | exact ih1 _ _ _ _ _
      | exact arm_Mirror.mono _ _
      | exact arm_Pieces.mono _ _
      | exact arm_Turned.mono _ _
      | exact arm_Widen.mono _ _ _
      | exact dropperlaw03_First.mono _
      | exact dropperlaw03_same.mono _ _ _
      | exact dropperref03_Valid.mono _ _
      | exact LeO.none _
      | refine LeO.ite ?_ ?_
      | refine LeO.bind ?_ (fun _ => ?_)
set_option maxHeartbeats 8000000 in
set_option maxRecDepth 100000 in
theorem dropperlaw03_ArmSides.calls (k : Nat) (A0 : Option Addr) (c0 : Nat) (l0 : List (S73)) (a1 : Int) (r : Bool) (w : World) (hr0 : Kd.C k73 w A0 l0.length l0) (hc0 : l0.length ≤ c0) (h : dropperlaw03_ArmSides.f k l0 a1 = some r) (hT : r = true) :
    Calls Try.prog 10 #[.slice A0 l0.length c0, .int .u16 a1] w fun e w' => e = .returned (.bool r) ∧ Below w.heap.size w w' := by
  have HR0 := Aside0.mk hr0
  have HC0 := Aside0.mk hc0
  clear hr0 hc0
  have HB := Aside0.mk (Below.refl w.heap.size w)
  have H : ((dropperref03_Valid.f k l0).bind fun t101 => (if t101 = true then ((arm_Pieces.f k l0).bind fun bt103 => ((arm_Mirror.f k l0).bind fun bt107 => ((arm_Turned.f k l0).bind fun bt111 => ((arm_Widen.f k l0 (Int.tmod (wrap64 (a1)) 2001)).bind fun bt115 => (if bt103.2 = 0 then (if bt107.2 = 0 then (if bt111.2 = 0 then (dropperlaw03_ArmSides.j0 k l0 bt103.1 bt107.1 bt111.1 bt115.1 (bt115.2 != 0)) else (dropperlaw03_ArmSides.j0 k l0 bt103.1 bt107.1 bt111.1 bt115.1 true)) else (dropperlaw03_ArmSides.j0 k l0 bt103.1 bt107.1 bt111.1 bt115.1 true)) else (dropperlaw03_ArmSides.j0 k l0 bt103.1 bt107.1 bt111.1 bt115.1 true)))))) else ((dropperlaw03_First.f k).bind fun t102 => (some t102)))) = some r := h
  clear h
  replace H := Option.bind_eq_some_iff.mp H
  obtain ⟨t101, A30, H⟩ := H
  replace H : (if t101 = true then ((arm_Pieces.f k l0).bind fun bt103 => ((arm_Mirror.f k l0).bind fun bt107 => ((arm_Turned.f k l0).bind fun bt111 => ((arm_Widen.f k l0 (Int.tmod (wrap64 (a1)) 2001)).bind fun bt115 => (if bt103.2 = 0 then (if bt107.2 = 0 then (if bt111.2 = 0 then (dropperlaw03_ArmSides.j0 k l0 bt103.1 bt107.1 bt111.1 bt115.1 (bt115.2 != 0)) else (dropperlaw03_ArmSides.j0 k l0 bt103.1 bt107.1 bt111.1 bt115.1 true)) else (dropperlaw03_ArmSides.j0 k l0 bt103.1 bt107.1 bt111.1 bt115.1 true)) else (dropperlaw03_ArmSides.j0 k l0 bt103.1 bt107.1 bt111.1 bt115.1 true)))))) else ((dropperlaw03_First.f k).bind fun t102 => (some t102))) = some r := H
  have A3 := Aside0.mk A30
  clear A30
  by_cases c4 : t101 = true
  rotate_left
  · replace c4 := Bool.eq_false_iff.mpr c4
    subst c4
    have H1 : ((dropperlaw03_First.f k).bind fun t102 => (some t102)) = some r := by rw [if_neg (show ¬ (false = true) by decide)] at H; exact H
    clear H
    have H := H1
    clear H1
    replace H := Option.bind_eq_some_iff.mp H
    obtain ⟨t102, A540, H⟩ := H
    replace H : (some t102) = some r := H
    have A54 := Aside0.mk A540
    clear A540
    clear hT
    obtain rfl := Option.some.inj H
    go_enter Try.func10, Try.ntmps10
    go_wp2_with (first | ((with_reducible refine gate_callee (f := 24) rfl ?_); refine goesL_ (some 19) rfl rfl Try.func24 (by kernel_rfl) rfl #[.slice A0 l0.length c0] rfl (by (try simp only [List.map_toArray, List.map_cons, List.map_nil]); first | done | rfl | (simp only [List.length_drop, List.length_take]; rfl)) ?_; (with_reducible refine (dropperref03_Valid.calls k _ _ l0 false _ ?side1 ?side2 A3.out).mono ?_); (case side1 => repeat (first | exact HR0.out | (with_reducible refine Kd.C_alloc ?_ _) | (with_reducible refine Kd.C_drewN ?_ _) | (with_reducible refine Kd.C_drew ?_))); (case side2 => exact HC0.out); rintro e w55 ⟨rfl, hb⟩; refine ⟨_, rfl, ?_⟩; have n0_ := Aside0.mk (below_step (by repeat (first | (with_reducible first | exact HB.out | apply below_alloc | apply pw_below_drewN | apply below_drew1) | exact HB.out)) hb); clear HB; have HB := n0_; clear n0_; (try clear hb); (try clear hb2); (try clear hk); (try clear hi)) | ((with_reducible refine gate_callee (f := 14) rfl ?_); refine goesL_ (some 21) rfl rfl Try.func14 (by kernel_rfl) rfl #[] rfl (by (try simp only [List.map_toArray, List.map_cons, List.map_nil]); first | done | rfl | (simp only [List.length_drop, List.length_take]; rfl)) ?_; (with_reducible refine (dropperlaw03_First.calls k  t102 _ A54.out).mono ?_); rintro e w56 ⟨rfl, hb⟩; refine ⟨_, rfl, ?_⟩; have n0_ := Aside0.mk (below_step (by repeat (first | (with_reducible first | exact HB.out | apply below_alloc | apply pw_below_drewN | apply below_drew1) | exact HB.out)) hb); clear HB; have HB := n0_; clear n0_; (try clear hb); (try clear hb2); (try clear hk); (try clear hi)))
    go_ret
    exact ⟨by first | rfl | (simp [errW_none, errW_some] <;> rfl) | (simp [*, errW_none, errW_some] <;> rfl), by repeat (first | (with_reducible first | exact HB.out | apply below_alloc | apply pw_below_drewN | apply below_drew1) | exact HB.out)⟩

  subst c4
  have H1 : ((arm_Pieces.f k l0).bind fun bt103 => ((arm_Mirror.f k l0).bind fun bt107 => ((arm_Turned.f k l0).bind fun bt111 => ((arm_Widen.f k l0 (Int.tmod (wrap64 (a1)) 2001)).bind fun bt115 => (if bt103.2 = 0 then (if bt107.2 = 0 then (if bt111.2 = 0 then (dropperlaw03_ArmSides.j0 k l0 bt103.1 bt107.1 bt111.1 bt115.1 (bt115.2 != 0)) else (dropperlaw03_ArmSides.j0 k l0 bt103.1 bt107.1 bt111.1 bt115.1 true)) else (dropperlaw03_ArmSides.j0 k l0 bt103.1 bt107.1 bt111.1 bt115.1 true)) else (dropperlaw03_ArmSides.j0 k l0 bt103.1 bt107.1 bt111.1 bt115.1 true)))))) = some r := by rw [if_pos rfl] at H; exact H
  clear H
  have H := H1
  clear H1
  replace H := Option.bind_eq_some_iff.mp H
  obtain ⟨⟨t103, t104⟩, A50, H⟩ := H
  replace H : ((arm_Mirror.f k l0).bind fun bt107 => ((arm_Turned.f k l0).bind fun bt111 => ((arm_Widen.f k l0 (Int.tmod (wrap64 (a1)) 2001)).bind fun bt115 => (if t104 = 0 then (if bt107.2 = 0 then (if bt111.2 = 0 then (dropperlaw03_ArmSides.j0 k l0 t103 bt107.1 bt111.1 bt115.1 (bt115.2 != 0)) else (dropperlaw03_ArmSides.j0 k l0 t103 bt107.1 bt111.1 bt115.1 true)) else (dropperlaw03_ArmSides.j0 k l0 t103 bt107.1 bt111.1 bt115.1 true)) else (dropperlaw03_ArmSides.j0 k l0 t103 bt107.1 bt111.1 bt115.1 true))))) = some r := H
  have A5 := Aside0.mk A50
  clear A50
  replace H := Option.bind_eq_some_iff.mp H
  obtain ⟨⟨t107, t108⟩, A60, H⟩ := H
  replace H : ((arm_Turned.f k l0).bind fun bt111 => ((arm_Widen.f k l0 (Int.tmod (wrap64 (a1)) 2001)).bind fun bt115 => (if t104 = 0 then (if t108 = 0 then (if bt111.2 = 0 then (dropperlaw03_ArmSides.j0 k l0 t103 t107 bt111.1 bt115.1 (bt115.2 != 0)) else (dropperlaw03_ArmSides.j0 k l0 t103 t107 bt111.1 bt115.1 true)) else (dropperlaw03_ArmSides.j0 k l0 t103 t107 bt111.1 bt115.1 true)) else (dropperlaw03_ArmSides.j0 k l0 t103 t107 bt111.1 bt115.1 true)))) = some r := H
  have A6 := Aside0.mk A60
  clear A60
  replace H := Option.bind_eq_some_iff.mp H
  obtain ⟨⟨t111, t112⟩, A70, H⟩ := H
  replace H : ((arm_Widen.f k l0 (Int.tmod (wrap64 (a1)) 2001)).bind fun bt115 => (if t104 = 0 then (if t108 = 0 then (if t112 = 0 then (dropperlaw03_ArmSides.j0 k l0 t103 t107 t111 bt115.1 (bt115.2 != 0)) else (dropperlaw03_ArmSides.j0 k l0 t103 t107 t111 bt115.1 true)) else (dropperlaw03_ArmSides.j0 k l0 t103 t107 t111 bt115.1 true)) else (dropperlaw03_ArmSides.j0 k l0 t103 t107 t111 bt115.1 true))) = some r := H
  have A7 := Aside0.mk A70
  clear A70
  replace H := Option.bind_eq_some_iff.mp H
  obtain ⟨⟨t115, t116⟩, A80, H⟩ := H
  replace H : (if t104 = 0 then (if t108 = 0 then (if t112 = 0 then (dropperlaw03_ArmSides.j0 k l0 t103 t107 t111 t115 (t116 != 0)) else (dropperlaw03_ArmSides.j0 k l0 t103 t107 t111 t115 true)) else (dropperlaw03_ArmSides.j0 k l0 t103 t107 t111 t115 true)) else (dropperlaw03_ArmSides.j0 k l0 t103 t107 t111 t115 true)) = some r := H
  have A8 := Aside0.mk A80
  clear A80
  have HC9 := Aside0.mk H
  clear H
  go_enter Try.func10, Try.ntmps10
  go_upto_region 7 with (first | ((with_reducible refine gate_callee (f := 24) rfl ?_); refine goesL_ (some 19) rfl rfl Try.func24 (by kernel_rfl) rfl #[.slice A0 l0.length c0] rfl (by (try simp only [List.map_toArray, List.map_cons, List.map_nil]); first | done | rfl | (simp only [List.length_drop, List.length_take]; rfl)) ?_; (with_reducible refine (dropperref03_Valid.calls k _ _ l0 true _ ?side1 ?side2 A3.out).mono ?_); (case side1 => repeat (first | exact HR0.out | (with_reducible refine Kd.C_alloc ?_ _) | (with_reducible refine Kd.C_drewN ?_ _) | (with_reducible refine Kd.C_drew ?_))); (case side2 => exact HC0.out); rintro e w10 ⟨rfl, hb⟩; refine ⟨_, rfl, ?_⟩; have n0_ := Aside0.mk (below_step (by repeat (first | (with_reducible first | exact HB.out | apply below_alloc | apply pw_below_drewN | apply below_drew1) | exact HB.out)) hb); clear HB; have HB := n0_; clear n0_; (try clear hb); (try clear hb2); (try clear hk); (try clear hi)) | ((with_reducible refine gate_callee (f := 27) rfl ?_); refine goesL_ (some 24) rfl rfl Try.func27 (by kernel_rfl) rfl #[.slice A0 l0.length c0] rfl (by (try simp only [List.map_toArray, List.map_cons, List.map_nil]); first | done | rfl | (simp only [List.length_drop, List.length_take]; rfl)) ?_; (with_reducible refine (arm_Pieces.calls k _ _ l0 t103 t104 _ ?side1 ?side2 A5.out).mono ?_); (case side1 => repeat (first | exact (Kd.C_below HR0.out HB.out) | (with_reducible refine Kd.C_alloc ?_ _) | (with_reducible refine Kd.C_drewN ?_ _) | (with_reducible refine Kd.C_drew ?_))); (case side2 => exact HC0.out); rintro e w11 ⟨v105, rfl, ho0, hb⟩; refine ⟨_, rfl, ?_⟩; have n0_ := Aside0.mk (Kd.R_lower ho0 (below_size (by repeat (first | (with_reducible first | exact HB.out | apply below_alloc | apply pw_below_drewN | apply below_drew1) | exact HB.out)))); have n1_ := Aside0.mk (below_step (by repeat (first | (with_reducible first | exact HB.out | apply below_alloc | apply pw_below_drewN | apply below_drew1) | exact HB.out)) hb); clear HB; have HO106 := n0_; have HB := n1_; clear n0_ n1_; (try clear hb); (try clear hb2); (try clear hk); (try clear hi); (try clear ho0)) | ((with_reducible refine gate_callee (f := 39) rfl ?_); refine goesL_ (some 29) rfl rfl Try.func39 (by kernel_rfl) rfl #[.slice A0 l0.length c0] rfl (by (try simp only [List.map_toArray, List.map_cons, List.map_nil]); first | done | rfl | (simp only [List.length_drop, List.length_take]; rfl)) ?_; (with_reducible refine (arm_Mirror.calls k _ _ l0 t107 t108 _ ?side1 ?side2 A6.out).mono ?_); (case side1 => repeat (first | exact (Kd.C_below HR0.out HB.out) | (with_reducible refine Kd.C_alloc ?_ _) | (with_reducible refine Kd.C_drewN ?_ _) | (with_reducible refine Kd.C_drew ?_))); (case side2 => exact HC0.out); rintro e w12 ⟨v109, rfl, ho0, hb⟩; refine ⟨_, rfl, ?_⟩; have n0_ := Aside0.mk (Kd.R_below (by (with_reducible repeat (first | apply Kd.R_alloc | apply Kd.R_drewN | apply Kd.R_drew)); exact HO106.out) hb); have n1_ := Aside0.mk (Kd.R_lower ho0 (below_size (by repeat (first | (with_reducible first | exact HB.out | apply below_alloc | apply pw_below_drewN | apply below_drew1) | exact HB.out)))); have n2_ := Aside0.mk (below_step (by repeat (first | (with_reducible first | exact HB.out | apply below_alloc | apply pw_below_drewN | apply below_drew1) | exact HB.out)) hb); clear HO106; clear HB; have HO106 := n0_; have HO110 := n1_; have HB := n2_; clear n0_ n1_ n2_; (try clear hb); (try clear hb2); (try clear hk); (try clear hi); (try clear ho0)) | ((with_reducible refine gate_callee (f := 41) rfl ?_); refine goesL_ (some 34) rfl rfl Try.func41 (by kernel_rfl) rfl #[.slice A0 l0.length c0] rfl (by (try simp only [List.map_toArray, List.map_cons, List.map_nil]); first | done | rfl | (simp only [List.length_drop, List.length_take]; rfl)) ?_; (with_reducible refine (arm_Turned.calls k _ _ l0 t111 t112 _ ?side1 ?side2 A7.out).mono ?_); (case side1 => repeat (first | exact (Kd.C_below HR0.out HB.out) | (with_reducible refine Kd.C_alloc ?_ _) | (with_reducible refine Kd.C_drewN ?_ _) | (with_reducible refine Kd.C_drew ?_))); (case side2 => exact HC0.out); rintro e w13 ⟨v113, rfl, ho0, hb⟩; refine ⟨_, rfl, ?_⟩; have n0_ := Aside0.mk (Kd.R_below (by (with_reducible repeat (first | apply Kd.R_alloc | apply Kd.R_drewN | apply Kd.R_drew)); exact HO106.out) hb); have n1_ := Aside0.mk (Kd.R_elder' (by (with_reducible repeat (first | apply Kd.R_alloc | apply Kd.R_drewN | apply Kd.R_drew)); exact HO110.out) (Kd.R_base ho0) hb); have n2_ := Aside0.mk (Kd.R_lower (Kd.R_new' ho0 (Kd.R_lt (by (with_reducible repeat (first | apply Kd.R_alloc | apply Kd.R_drewN | apply Kd.R_drew)); exact HO110.out))) (below_size (by repeat (first | (with_reducible first | exact HB.out | apply below_alloc | apply pw_below_drewN | apply below_drew1) | exact HB.out)))); have n3_ := Aside0.mk (below_step (by repeat (first | (with_reducible first | exact HB.out | apply below_alloc | apply pw_below_drewN | apply below_drew1) | exact HB.out)) hb); clear HO106; clear HO110; clear HB; have HO106 := n0_; have HO110 := n1_; have HO114 := n2_; have HB := n3_; clear n0_ n1_ n2_ n3_; (try clear hb); (try clear hb2); (try clear hk); (try clear hi); (try clear ho0)) | ((with_reducible refine gate_callee (f := 43) rfl ?_); refine goesL_ (some 42) rfl rfl Try.func43 (by kernel_rfl) rfl #[.slice A0 l0.length c0, .int .i64 (Int.tmod (wrap64 (a1)) 2001)] rfl (by (try simp only [List.map_toArray, List.map_cons, List.map_nil]); first | done | rfl | (simp only [List.length_drop, List.length_take]; rfl)) ?_; (with_reducible refine (arm_Widen.calls k _ _ l0 (Int.tmod (wrap64 (a1)) 2001) t115 t116 _ ?side1 ?side2 A8.out).mono ?_); (case side1 => repeat (first | exact (Kd.C_below HR0.out HB.out) | (with_reducible refine Kd.C_alloc ?_ _) | (with_reducible refine Kd.C_drewN ?_ _) | (with_reducible refine Kd.C_drew ?_))); (case side2 => exact HC0.out); rintro e w14 ⟨v117, rfl, ho0, hb⟩; refine ⟨_, rfl, ?_⟩; have n0_ := Aside0.mk (Kd.R_below (by (with_reducible repeat (first | apply Kd.R_alloc | apply Kd.R_drewN | apply Kd.R_drew)); exact HO106.out) hb); have n1_ := Aside0.mk (Kd.R_elder' (by (with_reducible repeat (first | apply Kd.R_alloc | apply Kd.R_drewN | apply Kd.R_drew)); exact HO110.out) (Kd.R_base ho0) hb); have n2_ := Aside0.mk (Kd.R_elder' (by (with_reducible repeat (first | apply Kd.R_alloc | apply Kd.R_drewN | apply Kd.R_drew)); exact HO114.out) (Kd.R_base ho0) hb); have n3_ := Aside0.mk (Kd.R_lower (Kd.R_new' (Kd.R_new' ho0 (Kd.R_lt (by (with_reducible repeat (first | apply Kd.R_alloc | apply Kd.R_drewN | apply Kd.R_drew)); exact HO110.out))) (Kd.R_lt (by (with_reducible repeat (first | apply Kd.R_alloc | apply Kd.R_drewN | apply Kd.R_drew)); exact HO114.out))) (below_size (by repeat (first | (with_reducible first | exact HB.out | apply below_alloc | apply pw_below_drewN | apply below_drew1) | exact HB.out)))); have n4_ := Aside0.mk (below_step (by repeat (first | (with_reducible first | exact HB.out | apply below_alloc | apply pw_below_drewN | apply below_drew1) | exact HB.out)) hb); clear HO106; clear HO110; clear HO114; clear HB; have HO106 := n0_; have HO110 := n1_; have HO114 := n2_; have HO118 := n3_; have HB := n4_; clear n0_ n1_ n2_ n3_ n4_; (try clear hb); (try clear hb2); (try clear hk); (try clear hi); (try clear ho0)))
  (try simp only [Act.put, List.setIfInBounds_toArray, List.set_cons_zero, List.set_cons_succ])
  go_cut [58] (fun v58 wc => ∃ (kq : Nat) (x58_8 : Bool), v58 = .bool x58_8 ∧ Aside0 (dropperlaw03_ArmSides.j0 kq l0 t103 t107 t111 t115 x58_8 = some r) ∧ Aside0 (kq ≤ k) ∧ Aside0 (Kd.R (Kd.int .i64) 3 wc w.heap.size (fun _ => True) v105 t103) ∧ Aside0 (Kd.R k73 73 wc w.heap.size (fun k_ => some k_ ≠ (v113 : Value).ownBlock ∧ some k_ ≠ (v117 : Value).ownBlock) v109 t107) ∧ Aside0 (Kd.R k73 73 wc w.heap.size (fun k_ => some k_ ≠ (v109 : Value).ownBlock ∧ some k_ ≠ (v117 : Value).ownBlock) v113 t111) ∧ Aside0 (Kd.R k73 73 wc w.heap.size (fun k_ => some k_ ≠ (v109 : Value).ownBlock ∧ some k_ ≠ (v113 : Value).ownBlock) v117 t115) ∧ Aside0 (Below w.heap.size w wc))
  case first =>
    have H := HC9.out
    clear HC9
    by_cases c15 : t104 = 0
    rotate_left
    · rw [if_neg c15] at H
      have c15b0 : (t104 == 0) = false := beq_eq_false_iff_ne.mpr c15
      have c15b1 : (t104 != 0) = true := bne_iff_ne.mpr c15
      (first | rw [c15b0] | (simp only [i64_w, i32_w]; rw [c15b0]) | skip)
      have H' := Aside0.mk H
      clear H
      go_wp2
      go_meet
      case rel => exact ⟨_, (true), (by first | rfl | (simp; done) | (simp [*]; done)), H', ⟨by first | omega | exact Nat.le_refl _⟩, ⟨by (with_reducible repeat (first | apply Kd.R_alloc | apply Kd.R_drewN | apply Kd.R_drew)); exact HO106.out⟩, ⟨by (with_reducible repeat (first | apply Kd.R_alloc | apply Kd.R_drewN | apply Kd.R_drew)); exact Kd.R_mono HO110.out (fun _ hk => ⟨hk.1.2, hk.2⟩)⟩, ⟨by (with_reducible repeat (first | apply Kd.R_alloc | apply Kd.R_drewN | apply Kd.R_drew)); exact Kd.R_mono HO114.out (fun _ hk => ⟨hk.1.2, hk.2⟩)⟩, ⟨by (with_reducible repeat (first | apply Kd.R_alloc | apply Kd.R_drewN | apply Kd.R_drew)); exact Kd.R_mono HO118.out (fun _ hk => ⟨hk.1.2, hk.2⟩)⟩, ⟨by repeat (first | (with_reducible first | exact HB.out | apply below_alloc | apply pw_below_drewN | apply below_drew1) | exact HB.out)⟩⟩
    rw [if_pos c15] at H
    have c15b0 : (t104 == 0) = true := beq_iff_eq.mpr c15
    have c15b1 : (t104 != 0) = false := bne_eq_false_iff_eq.mpr c15
    clear c15
    (first | rw [c15b0] | (simp only [i64_w, i32_w]; rw [c15b0]) | skip)
    by_cases c16 : t108 = 0
    rotate_left
    · rw [if_neg c16] at H
      have c16b0 : (t108 == 0) = false := beq_eq_false_iff_ne.mpr c16
      have c16b1 : (t108 != 0) = true := bne_iff_ne.mpr c16
      have H' := Aside0.mk H
      clear H
      go_wp2
      go_meet
      case rel => exact ⟨_, (true), (by first | rfl | (simp; done) | (simp [*]; done)), H', ⟨by first | omega | exact Nat.le_refl _⟩, ⟨by (with_reducible repeat (first | apply Kd.R_alloc | apply Kd.R_drewN | apply Kd.R_drew)); exact HO106.out⟩, ⟨by (with_reducible repeat (first | apply Kd.R_alloc | apply Kd.R_drewN | apply Kd.R_drew)); exact Kd.R_mono HO110.out (fun _ hk => ⟨hk.1.2, hk.2⟩)⟩, ⟨by (with_reducible repeat (first | apply Kd.R_alloc | apply Kd.R_drewN | apply Kd.R_drew)); exact Kd.R_mono HO114.out (fun _ hk => ⟨hk.1.2, hk.2⟩)⟩, ⟨by (with_reducible repeat (first | apply Kd.R_alloc | apply Kd.R_drewN | apply Kd.R_drew)); exact Kd.R_mono HO118.out (fun _ hk => ⟨hk.1.2, hk.2⟩)⟩, ⟨by repeat (first | (with_reducible first | exact HB.out | apply below_alloc | apply pw_below_drewN | apply below_drew1) | exact HB.out)⟩⟩
    rw [if_pos c16] at H
    have c16b0 : (t108 == 0) = true := beq_iff_eq.mpr c16
    have c16b1 : (t108 != 0) = false := bne_eq_false_iff_eq.mpr c16
    clear c16
    by_cases c17 : t112 = 0
    rotate_left
    · rw [if_neg c17] at H
      have c17b0 : (t112 == 0) = false := beq_eq_false_iff_ne.mpr c17
      have c17b1 : (t112 != 0) = true := bne_iff_ne.mpr c17
      have H' := Aside0.mk H
      clear H
      go_wp2
      go_meet
      case rel => exact ⟨_, (true), (by first | rfl | (simp; done) | (simp [*]; done)), H', ⟨by first | omega | exact Nat.le_refl _⟩, ⟨by (with_reducible repeat (first | apply Kd.R_alloc | apply Kd.R_drewN | apply Kd.R_drew)); exact HO106.out⟩, ⟨by (with_reducible repeat (first | apply Kd.R_alloc | apply Kd.R_drewN | apply Kd.R_drew)); exact Kd.R_mono HO110.out (fun _ hk => ⟨hk.1.2, hk.2⟩)⟩, ⟨by (with_reducible repeat (first | apply Kd.R_alloc | apply Kd.R_drewN | apply Kd.R_drew)); exact Kd.R_mono HO114.out (fun _ hk => ⟨hk.1.2, hk.2⟩)⟩, ⟨by (with_reducible repeat (first | apply Kd.R_alloc | apply Kd.R_drewN | apply Kd.R_drew)); exact Kd.R_mono HO118.out (fun _ hk => ⟨hk.1.2, hk.2⟩)⟩, ⟨by repeat (first | (with_reducible first | exact HB.out | apply below_alloc | apply pw_below_drewN | apply below_drew1) | exact HB.out)⟩⟩
    rw [if_pos c17] at H
    have c17b0 : (t112 == 0) = true := beq_iff_eq.mpr c17
    have c17b1 : (t112 != 0) = false := bne_eq_false_iff_eq.mpr c17
    clear c17
    have H' := Aside0.mk H
    clear H
    go_wp2
    go_meet
    case rel => exact ⟨_, ((t116 != 0)), (by first | rfl | (simp; done) | (simp [*]; done)), H', ⟨by first | omega | exact Nat.le_refl _⟩, ⟨by (with_reducible repeat (first | apply Kd.R_alloc | apply Kd.R_drewN | apply Kd.R_drew)); exact HO106.out⟩, ⟨by (with_reducible repeat (first | apply Kd.R_alloc | apply Kd.R_drewN | apply Kd.R_drew)); exact Kd.R_mono HO110.out (fun _ hk => ⟨hk.1.2, hk.2⟩)⟩, ⟨by (with_reducible repeat (first | apply Kd.R_alloc | apply Kd.R_drewN | apply Kd.R_drew)); exact Kd.R_mono HO114.out (fun _ hk => ⟨hk.1.2, hk.2⟩)⟩, ⟨by (with_reducible repeat (first | apply Kd.R_alloc | apply Kd.R_drewN | apply Kd.R_drew)); exact Kd.R_mono HO118.out (fun _ hk => ⟨hk.1.2, hk.2⟩)⟩, ⟨by repeat (first | (with_reducible first | exact HB.out | apply below_alloc | apply pw_below_drewN | apply below_drew1) | exact HB.out)⟩⟩
  case rest =>
    clear HC9
    try clear c1
    try clear c2
    try clear p2
    try clear c3
    try clear c4
    try clear p6
    try clear c10
    try clear c15
    try clear c15b0
    try clear c15b1
    try clear c16
    try clear c16b0
    try clear c16b1
    try clear c17
    try clear c17b0
    try clear c17b1
    obtain ⟨kq, x58_8, rfl, HA, HJ8, HO_5, HO_7, HO_9, HO_11, HB⟩ := hcut
    cases kq with
    | zero => exact absurd HA.out (by simp [dropperlaw03_ArmSides.j0])
    | succ kj8 =>
      have H := HA.out
      clear HA
      simp only [dropperlaw03_ArmSides.j0] at H
      by_cases c18 : x58_8 = true
      · subst c18
        have H1 : (some false) = some r := by rw [if_pos rfl] at H; exact H
        clear H
        have H := H1
        clear H1
        exact absurd (hT.symm.trans (Option.some.inj H).symm) (by decide)
      replace c18 := Bool.eq_false_iff.mpr c18
      subst c18
      have H1 : ((arm_Mirror.f kj8 t107).bind fun bt119 => ((arm_Turned.f kj8 t111).bind fun bt123 => (if bt119.2 = 0 then (if bt123.2 = 0 then ((dropperlaw03_same.f kj8 bt119.1 l0).bind fun t127 => (if t127 = true then ((dropperlaw03_same.f kj8 bt123.1 l0).bind fun t128 => (dropperlaw03_ArmSides.j1 kj8 t103 t107 t111 t115 (!t128))) else (dropperlaw03_ArmSides.j1 kj8 t103 t107 t111 t115 true))) else (dropperlaw03_ArmSides.j1 kj8 t103 t107 t111 t115 true)) else (dropperlaw03_ArmSides.j1 kj8 t103 t107 t111 t115 true)))) = some r := by rw [if_neg (show ¬ (false = true) by decide)] at H; exact H
      clear H
      have H := H1
      clear H1
      replace H := Option.bind_eq_some_iff.mp H
      obtain ⟨⟨t119, t120⟩, A190, H⟩ := H
      replace H : ((arm_Turned.f kj8 t111).bind fun bt123 => (if t120 = 0 then (if bt123.2 = 0 then ((dropperlaw03_same.f kj8 t119 l0).bind fun t127 => (if t127 = true then ((dropperlaw03_same.f kj8 bt123.1 l0).bind fun t128 => (dropperlaw03_ArmSides.j1 kj8 t103 t107 t111 t115 (!t128))) else (dropperlaw03_ArmSides.j1 kj8 t103 t107 t111 t115 true))) else (dropperlaw03_ArmSides.j1 kj8 t103 t107 t111 t115 true)) else (dropperlaw03_ArmSides.j1 kj8 t103 t107 t111 t115 true))) = some r := H
      have A19 := Aside0.mk A190
      clear A190
      replace H := Option.bind_eq_some_iff.mp H
      obtain ⟨⟨t123, t124⟩, A200, H⟩ := H
      replace H : (if t120 = 0 then (if t124 = 0 then ((dropperlaw03_same.f kj8 t119 l0).bind fun t127 => (if t127 = true then ((dropperlaw03_same.f kj8 t123 l0).bind fun t128 => (dropperlaw03_ArmSides.j1 kj8 t103 t107 t111 t115 (!t128))) else (dropperlaw03_ArmSides.j1 kj8 t103 t107 t111 t115 true))) else (dropperlaw03_ArmSides.j1 kj8 t103 t107 t111 t115 true)) else (dropperlaw03_ArmSides.j1 kj8 t103 t107 t111 t115 true)) = some r := H
      have A20 := Aside0.mk A200
      clear A200
      have HC21 := Aside0.mk H
      clear H
      obtain ⟨Ao22, co22, eo22⟩ := Kd.R_slice HO_7.out
      subst eo22
      go_upto_region 11 with (first | ((with_reducible refine gate_callee (f := 39) rfl ?_); refine goesL_ (some 61) rfl rfl Try.func39 (by kernel_rfl) rfl #[.slice Ao22 t107.length co22] rfl (by (try simp only [List.map_toArray, List.map_cons, List.map_nil]); first | done | rfl | (simp only [List.length_drop, List.length_take]; rfl)) ?_; (with_reducible refine (arm_Mirror.calls kj8 _ _ t107 t119 t120 _ ?side1 ?side2 A19.out).mono ?_); (case side1 => repeat (first | exact (Kd.R_reads' HO_7.out).2.2 | (with_reducible refine Kd.C_alloc ?_ _) | (with_reducible refine Kd.C_drewN ?_ _) | (with_reducible refine Kd.C_drew ?_))); (case side2 => exact (Kd.R_reads' HO_7.out).2.1); rintro e w23 ⟨v121, rfl, ho0, hb⟩; refine ⟨_, rfl, ?_⟩; have n0_ := Aside0.mk (Kd.R_below (by (with_reducible repeat (first | apply Kd.R_alloc | apply Kd.R_drewN | apply Kd.R_drew)); exact HO_5.out) hb); have n1_ := Aside0.mk (Kd.R_elder' (by (with_reducible repeat (first | apply Kd.R_alloc | apply Kd.R_drewN | apply Kd.R_drew)); exact HO_7.out) (Kd.R_base ho0) hb); have n2_ := Aside0.mk (Kd.R_elder' (by (with_reducible repeat (first | apply Kd.R_alloc | apply Kd.R_drewN | apply Kd.R_drew)); exact HO_9.out) (Kd.R_base ho0) hb); have n3_ := Aside0.mk (Kd.R_elder' (by (with_reducible repeat (first | apply Kd.R_alloc | apply Kd.R_drewN | apply Kd.R_drew)); exact HO_11.out) (Kd.R_base ho0) hb); have n4_ := Aside0.mk (Kd.R_lower (Kd.R_new' (Kd.R_new' (Kd.R_new' ho0 (Kd.R_lt (by (with_reducible repeat (first | apply Kd.R_alloc | apply Kd.R_drewN | apply Kd.R_drew)); exact HO_7.out))) (Kd.R_lt (by (with_reducible repeat (first | apply Kd.R_alloc | apply Kd.R_drewN | apply Kd.R_drew)); exact HO_9.out))) (Kd.R_lt (by (with_reducible repeat (first | apply Kd.R_alloc | apply Kd.R_drewN | apply Kd.R_drew)); exact HO_11.out))) (below_size (by repeat (first | (with_reducible first | exact HB.out | apply below_alloc | apply pw_below_drewN | apply below_drew1) | exact HB.out)))); have n5_ := Aside0.mk (below_step (by repeat (first | (with_reducible first | exact HB.out | apply below_alloc | apply pw_below_drewN | apply below_drew1) | exact HB.out)) hb); clear HO_5; clear HO_7; clear HO_9; clear HO_11; clear HB; have HO_5 := n0_; have HO_7 := n1_; have HO_9 := n2_; have HO_11 := n3_; have HO122 := n4_; have HB := n5_; clear n0_ n1_ n2_ n3_ n4_ n5_; (try clear hb); (try clear hb2); (try clear hk); (try clear hi); (try clear ho0); obtain ⟨Ao24, co24, eo24⟩ := Kd.R_slice HO_9.out; subst eo24) | ((with_reducible refine gate_callee (f := 41) rfl ?_); refine goesL_ (some 66) rfl rfl Try.func41 (by kernel_rfl) rfl #[.slice Ao24 t111.length co24] rfl (by (try simp only [List.map_toArray, List.map_cons, List.map_nil]); first | done | rfl | (simp only [List.length_drop, List.length_take]; rfl)) ?_; (with_reducible refine (arm_Turned.calls kj8 _ _ t111 t123 t124 _ ?side1 ?side2 A20.out).mono ?_); (case side1 => repeat (first | exact (Kd.R_reads' HO_9.out).2.2 | (with_reducible refine Kd.C_alloc ?_ _) | (with_reducible refine Kd.C_drewN ?_ _) | (with_reducible refine Kd.C_drew ?_))); (case side2 => exact (Kd.R_reads' HO_9.out).2.1); rintro e w25 ⟨v125, rfl, ho0, hb⟩; refine ⟨_, rfl, ?_⟩; have n0_ := Aside0.mk (Kd.R_below (by (with_reducible repeat (first | apply Kd.R_alloc | apply Kd.R_drewN | apply Kd.R_drew)); exact HO_5.out) hb); have n1_ := Aside0.mk (Kd.R_elder' (by (with_reducible repeat (first | apply Kd.R_alloc | apply Kd.R_drewN | apply Kd.R_drew)); exact HO_7.out) (Kd.R_base ho0) hb); have n2_ := Aside0.mk (Kd.R_elder' (by (with_reducible repeat (first | apply Kd.R_alloc | apply Kd.R_drewN | apply Kd.R_drew)); exact HO_9.out) (Kd.R_base ho0) hb); have n3_ := Aside0.mk (Kd.R_elder' (by (with_reducible repeat (first | apply Kd.R_alloc | apply Kd.R_drewN | apply Kd.R_drew)); exact HO_11.out) (Kd.R_base ho0) hb); have n4_ := Aside0.mk (Kd.R_elder' (by (with_reducible repeat (first | apply Kd.R_alloc | apply Kd.R_drewN | apply Kd.R_drew)); exact HO122.out) (Kd.R_base ho0) hb); have n5_ := Aside0.mk (Kd.R_lower (Kd.R_new' (Kd.R_new' (Kd.R_new' (Kd.R_new' ho0 (Kd.R_lt (by (with_reducible repeat (first | apply Kd.R_alloc | apply Kd.R_drewN | apply Kd.R_drew)); exact HO_7.out))) (Kd.R_lt (by (with_reducible repeat (first | apply Kd.R_alloc | apply Kd.R_drewN | apply Kd.R_drew)); exact HO_9.out))) (Kd.R_lt (by (with_reducible repeat (first | apply Kd.R_alloc | apply Kd.R_drewN | apply Kd.R_drew)); exact HO_11.out))) (Kd.R_lt (by (with_reducible repeat (first | apply Kd.R_alloc | apply Kd.R_drewN | apply Kd.R_drew)); exact HO122.out))) (below_size (by repeat (first | (with_reducible first | exact HB.out | apply below_alloc | apply pw_below_drewN | apply below_drew1) | exact HB.out)))); have n6_ := Aside0.mk (below_step (by repeat (first | (with_reducible first | exact HB.out | apply below_alloc | apply pw_below_drewN | apply below_drew1) | exact HB.out)) hb); clear HO_5; clear HO_7; clear HO_9; clear HO_11; clear HO122; clear HB; have HO_5 := n0_; have HO_7 := n1_; have HO_9 := n2_; have HO_11 := n3_; have HO122 := n4_; have HO126 := n5_; have HB := n6_; clear n0_ n1_ n2_ n3_ n4_ n5_ n6_; (try clear hb); (try clear hb2); (try clear hk); (try clear hi); (try clear ho0)))
      (try simp only [Act.put, List.setIfInBounds_toArray, List.set_cons_zero, List.set_cons_succ])
      go_cut [86] (fun v86 wc => ∃ (kq : Nat) (x86_20 : Bool), v86 = .bool x86_20 ∧ Aside0 (dropperlaw03_ArmSides.j1 kq t103 t107 t111 t115 x86_20 = some r) ∧ Aside0 (kq ≤ kj8) ∧ Aside0 (Kd.R (Kd.int .i64) 3 wc w.heap.size (fun _ => True) v105 t103) ∧ Aside0 (Kd.R k73 73 wc w.heap.size (fun k_ => some k_ ≠ ((.slice Ao24 t111.length co24) : Value).ownBlock ∧ some k_ ≠ (v117 : Value).ownBlock) (.slice Ao22 t107.length co22) t107) ∧ Aside0 (Kd.R k73 73 wc w.heap.size (fun k_ => some k_ ≠ ((.slice Ao22 t107.length co22) : Value).ownBlock ∧ some k_ ≠ (v117 : Value).ownBlock) (.slice Ao24 t111.length co24) t111) ∧ Aside0 (Kd.R k73 73 wc w.heap.size (fun k_ => some k_ ≠ ((.slice Ao22 t107.length co22) : Value).ownBlock ∧ some k_ ≠ ((.slice Ao24 t111.length co24) : Value).ownBlock) v117 t115) ∧ Aside0 (Below w.heap.size w wc))
      case first =>
        have H := HC21.out
        clear HC21
        by_cases c26 : t120 = 0
        rotate_left
        · rw [if_neg c26] at H
          have c26b0 : (t120 == 0) = false := beq_eq_false_iff_ne.mpr c26
          have c26b1 : (t120 != 0) = true := bne_iff_ne.mpr c26
          (first | rw [c26b0] | (simp only [i64_w, i32_w]; rw [c26b0]) | skip)
          have H' := Aside0.mk H
          clear H
          go_wp2
          go_meet
          case rel => exact ⟨_, (true), (by first | rfl | (simp; done) | (simp [*]; done)), H', ⟨by have := HJ8.out; first | omega | exact Nat.le_refl _⟩, ⟨by (with_reducible repeat (first | apply Kd.R_alloc | apply Kd.R_drewN | apply Kd.R_drew)); exact HO_5.out⟩, ⟨by (with_reducible repeat (first | apply Kd.R_alloc | apply Kd.R_drewN | apply Kd.R_drew)); exact Kd.R_mono HO_7.out (fun _ hk => ⟨hk.1.1.1, hk.1.1.2⟩)⟩, ⟨by (with_reducible repeat (first | apply Kd.R_alloc | apply Kd.R_drewN | apply Kd.R_drew)); exact Kd.R_mono HO_9.out (fun _ hk => ⟨hk.1.1.1, hk.1.1.2⟩)⟩, ⟨by (with_reducible repeat (first | apply Kd.R_alloc | apply Kd.R_drewN | apply Kd.R_drew)); exact Kd.R_mono HO_11.out (fun _ hk => ⟨hk.1.1.1, hk.1.1.2⟩)⟩, ⟨by repeat (first | (with_reducible first | exact HB.out | apply below_alloc | apply pw_below_drewN | apply below_drew1) | exact HB.out)⟩⟩
        rw [if_pos c26] at H
        have c26b0 : (t120 == 0) = true := beq_iff_eq.mpr c26
        have c26b1 : (t120 != 0) = false := bne_eq_false_iff_eq.mpr c26
        clear c26
        (first | rw [c26b0] | (simp only [i64_w, i32_w]; rw [c26b0]) | skip)
        by_cases c27 : t124 = 0
        rotate_left
        · rw [if_neg c27] at H
          have c27b0 : (t124 == 0) = false := beq_eq_false_iff_ne.mpr c27
          have c27b1 : (t124 != 0) = true := bne_iff_ne.mpr c27
          have H' := Aside0.mk H
          clear H
          go_wp2
          go_meet
          case rel => exact ⟨_, (true), (by first | rfl | (simp; done) | (simp [*]; done)), H', ⟨by have := HJ8.out; first | omega | exact Nat.le_refl _⟩, ⟨by (with_reducible repeat (first | apply Kd.R_alloc | apply Kd.R_drewN | apply Kd.R_drew)); exact HO_5.out⟩, ⟨by (with_reducible repeat (first | apply Kd.R_alloc | apply Kd.R_drewN | apply Kd.R_drew)); exact Kd.R_mono HO_7.out (fun _ hk => ⟨hk.1.1.1, hk.1.1.2⟩)⟩, ⟨by (with_reducible repeat (first | apply Kd.R_alloc | apply Kd.R_drewN | apply Kd.R_drew)); exact Kd.R_mono HO_9.out (fun _ hk => ⟨hk.1.1.1, hk.1.1.2⟩)⟩, ⟨by (with_reducible repeat (first | apply Kd.R_alloc | apply Kd.R_drewN | apply Kd.R_drew)); exact Kd.R_mono HO_11.out (fun _ hk => ⟨hk.1.1.1, hk.1.1.2⟩)⟩, ⟨by repeat (first | (with_reducible first | exact HB.out | apply below_alloc | apply pw_below_drewN | apply below_drew1) | exact HB.out)⟩⟩
        rw [if_pos c27] at H
        have c27b0 : (t124 == 0) = true := beq_iff_eq.mpr c27
        have c27b1 : (t124 != 0) = false := bne_eq_false_iff_eq.mpr c27
        clear c27
        replace H := Option.bind_eq_some_iff.mp H
        obtain ⟨t127, A280, H⟩ := H
        replace H : (if t127 = true then ((dropperlaw03_same.f kj8 t123 l0).bind fun t128 => (dropperlaw03_ArmSides.j1 kj8 t103 t107 t111 t115 (!t128))) else (dropperlaw03_ArmSides.j1 kj8 t103 t107 t111 t115 true)) = some r := H
        have A28 := Aside0.mk A280
        clear A280
        by_cases c29 : t127 = true
        rotate_left
        · replace c29 := Bool.eq_false_iff.mpr c29
          subst c29
          have H1 : (dropperlaw03_ArmSides.j1 kj8 t103 t107 t111 t115 true) = some r := by rw [if_neg (show ¬ (false = true) by decide)] at H; exact H
          clear H
          have H := H1
          clear H1
          have H' := Aside0.mk H
          clear H
          obtain ⟨Ao33, co33, eo33⟩ := Kd.R_slice HO122.out
          subst eo33
          go_wp2_with (first | (go_at_call 38; (with_reducible refine (dropperlaw03_same.calls kj8 _ _ t119 _ _ l0 false _ ?side1 ?side2 ?side3 ?side4 A28.out).mono ?_); (case side1 => repeat (first | exact (Kd.R_reads' HO122.out).2.2 | (with_reducible refine Kd.C_alloc ?_ _) | (with_reducible refine Kd.C_drewN ?_ _) | (with_reducible refine Kd.C_drew ?_))); (case side2 => exact (Kd.R_reads' HO122.out).2.1); (case side3 => repeat (first | exact (Kd.C_below HR0.out HB.out) | (with_reducible refine Kd.C_alloc ?_ _) | (with_reducible refine Kd.C_drewN ?_ _) | (with_reducible refine Kd.C_drew ?_))); (case side4 => exact HC0.out); rintro e w' ⟨rfl, ⟨nd, rfl⟩⟩))
          go_meet
          case rel => exact ⟨_, (true), (by first | rfl | (simp; done) | (simp [*]; done)), H', ⟨by have := HJ8.out; first | omega | exact Nat.le_refl _⟩, ⟨by (with_reducible repeat (first | apply Kd.R_alloc | apply Kd.R_drewN | apply Kd.R_drew)); exact HO_5.out⟩, ⟨by (with_reducible repeat (first | apply Kd.R_alloc | apply Kd.R_drewN | apply Kd.R_drew)); exact Kd.R_mono HO_7.out (fun _ hk => ⟨hk.1.1.1, hk.1.1.2⟩)⟩, ⟨by (with_reducible repeat (first | apply Kd.R_alloc | apply Kd.R_drewN | apply Kd.R_drew)); exact Kd.R_mono HO_9.out (fun _ hk => ⟨hk.1.1.1, hk.1.1.2⟩)⟩, ⟨by (with_reducible repeat (first | apply Kd.R_alloc | apply Kd.R_drewN | apply Kd.R_drew)); exact Kd.R_mono HO_11.out (fun _ hk => ⟨hk.1.1.1, hk.1.1.2⟩)⟩, ⟨by repeat (first | (with_reducible first | exact HB.out | apply below_alloc | apply pw_below_drewN | apply below_drew1) | exact HB.out)⟩⟩
        subst c29
        have H1 : ((dropperlaw03_same.f kj8 t123 l0).bind fun t128 => (dropperlaw03_ArmSides.j1 kj8 t103 t107 t111 t115 (!t128))) = some r := by rw [if_pos rfl] at H; exact H
        clear H
        have H := H1
        clear H1
        replace H := Option.bind_eq_some_iff.mp H
        obtain ⟨t128, A300, H⟩ := H
        replace H : (dropperlaw03_ArmSides.j1 kj8 t103 t107 t111 t115 (!t128)) = some r := H
        have A30 := Aside0.mk A300
        clear A300
        have H' := Aside0.mk H
        clear H
        obtain ⟨Ao31, co31, eo31⟩ := Kd.R_slice HO122.out
        subst eo31
        go_wp2_with (first | (go_at_call 38; (with_reducible refine (dropperlaw03_same.calls kj8 _ _ t119 _ _ l0 true _ ?side1 ?side2 ?side3 ?side4 A28.out).mono ?_); (case side1 => repeat (first | exact (Kd.R_reads' HO122.out).2.2 | (with_reducible refine Kd.C_alloc ?_ _) | (with_reducible refine Kd.C_drewN ?_ _) | (with_reducible refine Kd.C_drew ?_))); (case side2 => exact (Kd.R_reads' HO122.out).2.1); (case side3 => repeat (first | exact (Kd.C_below HR0.out HB.out) | (with_reducible refine Kd.C_alloc ?_ _) | (with_reducible refine Kd.C_drewN ?_ _) | (with_reducible refine Kd.C_drew ?_))); (case side4 => exact HC0.out); rintro e w' ⟨rfl, ⟨nd, rfl⟩⟩; obtain ⟨Ao32, co32, eo32⟩ := Kd.R_slice HO126.out; subst eo32) | (go_at_call 38; (with_reducible refine (dropperlaw03_same.calls kj8 _ _ t123 _ _ l0 t128 _ ?side1 ?side2 ?side3 ?side4 A30.out).mono ?_); (case side1 => repeat (first | exact (Kd.R_reads' HO126.out).2.2 | (with_reducible refine Kd.C_alloc ?_ _) | (with_reducible refine Kd.C_drewN ?_ _) | (with_reducible refine Kd.C_drew ?_))); (case side2 => exact (Kd.R_reads' HO126.out).2.1); (case side3 => repeat (first | exact (Kd.C_below HR0.out (by repeat (first | (with_reducible first | exact HB.out | apply below_alloc | apply pw_below_drewN | apply below_drew1) | exact HB.out))) | (with_reducible refine Kd.C_alloc ?_ _) | (with_reducible refine Kd.C_drewN ?_ _) | (with_reducible refine Kd.C_drew ?_))); (case side4 => exact HC0.out); rintro e w' ⟨rfl, ⟨nd, rfl⟩⟩))
        go_meet
        case rel => exact ⟨_, (!t128), (by first | rfl | (simp; done) | (simp [*]; done)), H', ⟨by have := HJ8.out; first | omega | exact Nat.le_refl _⟩, ⟨by (with_reducible repeat (first | apply Kd.R_alloc | apply Kd.R_drewN | apply Kd.R_drew)); exact HO_5.out⟩, ⟨by (with_reducible repeat (first | apply Kd.R_alloc | apply Kd.R_drewN | apply Kd.R_drew)); exact Kd.R_mono HO_7.out (fun _ hk => ⟨hk.1.1.1, hk.1.1.2⟩)⟩, ⟨by (with_reducible repeat (first | apply Kd.R_alloc | apply Kd.R_drewN | apply Kd.R_drew)); exact Kd.R_mono HO_9.out (fun _ hk => ⟨hk.1.1.1, hk.1.1.2⟩)⟩, ⟨by (with_reducible repeat (first | apply Kd.R_alloc | apply Kd.R_drewN | apply Kd.R_drew)); exact Kd.R_mono HO_11.out (fun _ hk => ⟨hk.1.1.1, hk.1.1.2⟩)⟩, ⟨by repeat (first | (with_reducible first | exact HB.out | apply below_alloc | apply pw_below_drewN | apply below_drew1) | exact HB.out)⟩⟩
      case rest =>
        clear HC21
        try clear c1
        try clear c2
        try clear p2
        try clear c3
        try clear c4
        try clear p6
        try clear c10
        try clear c15
        try clear c15b0
        try clear c15b1
        try clear c16
        try clear c16b0
        try clear c16b1
        try clear c17
        try clear c17b0
        try clear c17b1
        try clear c18
        try clear c24
        try clear c26
        try clear c26b0
        try clear c26b1
        try clear c27
        try clear c27b0
        try clear c27b1
        try clear c29
        try clear p2
        try clear p6
        obtain ⟨kq, x86_20, rfl, HA, HJ20, HO_5, HO_7, HO_9, HO_11, HB⟩ := hcut
        cases kq with
        | zero => exact absurd HA.out (by simp [dropperlaw03_ArmSides.j1])
        | succ kj20 =>
          have H := HA.out
          clear HA
          simp only [dropperlaw03_ArmSides.j1] at H
          by_cases c34 : x86_20 = true
          · subst c34
            have H1 : (some false) = some r := by rw [if_pos rfl] at H; exact H
            clear H
            have H := H1
            clear H1
            exact absurd (hT.symm.trans (Option.some.inj H).symm) (by decide)
          replace c34 := Bool.eq_false_iff.mpr c34
          subst c34
          have H1 : ((arm_Pieces.f kj20 t107).bind fun bt129 => ((arm_Pieces.f kj20 t111).bind fun bt133 => ((arm_Pieces.f kj20 t115).bind fun bt137 => (if bt129.2 = 0 then (if bt133.2 = 0 then (if bt137.2 = 0 then (if (bt129.1.length : Int) = (t103.length : Int) then (if (bt133.1.length : Int) = (t103.length : Int) then (if (bt137.1.length : Int) ≤ (t103.length : Int) then ((dropperlaw03_First.f kj20).bind fun t141 => (some t141)) else (some false)) else (some false)) else (some false)) else (some false)) else (some false)) else (some false))))) = some r := by rw [if_neg (show ¬ (false = true) by decide)] at H; exact H
          clear H
          have H := H1
          clear H1
          replace H := Option.bind_eq_some_iff.mp H
          obtain ⟨⟨t129, t130⟩, A350, H⟩ := H
          replace H : ((arm_Pieces.f kj20 t111).bind fun bt133 => ((arm_Pieces.f kj20 t115).bind fun bt137 => (if t130 = 0 then (if bt133.2 = 0 then (if bt137.2 = 0 then (if (t129.length : Int) = (t103.length : Int) then (if (bt133.1.length : Int) = (t103.length : Int) then (if (bt137.1.length : Int) ≤ (t103.length : Int) then ((dropperlaw03_First.f kj20).bind fun t141 => (some t141)) else (some false)) else (some false)) else (some false)) else (some false)) else (some false)) else (some false)))) = some r := H
          have A35 := Aside0.mk A350
          clear A350
          replace H := Option.bind_eq_some_iff.mp H
          obtain ⟨⟨t133, t134⟩, A360, H⟩ := H
          replace H : ((arm_Pieces.f kj20 t115).bind fun bt137 => (if t130 = 0 then (if t134 = 0 then (if bt137.2 = 0 then (if (t129.length : Int) = (t103.length : Int) then (if (t133.length : Int) = (t103.length : Int) then (if (bt137.1.length : Int) ≤ (t103.length : Int) then ((dropperlaw03_First.f kj20).bind fun t141 => (some t141)) else (some false)) else (some false)) else (some false)) else (some false)) else (some false)) else (some false))) = some r := H
          have A36 := Aside0.mk A360
          clear A360
          replace H := Option.bind_eq_some_iff.mp H
          obtain ⟨⟨t137, t138⟩, A370, H⟩ := H
          replace H : (if t130 = 0 then (if t134 = 0 then (if t138 = 0 then (if (t129.length : Int) = (t103.length : Int) then (if (t133.length : Int) = (t103.length : Int) then (if (t137.length : Int) ≤ (t103.length : Int) then ((dropperlaw03_First.f kj20).bind fun t141 => (some t141)) else (some false)) else (some false)) else (some false)) else (some false)) else (some false)) else (some false)) = some r := H
          have A37 := Aside0.mk A370
          clear A370
          by_cases c38 : t130 = 0
          rotate_left
          · rw [if_neg c38] at H
            have c38b0 : (t130 == 0) = false := beq_eq_false_iff_ne.mpr c38
            have c38b1 : (t130 != 0) = true := bne_iff_ne.mpr c38
            exact absurd (hT.symm.trans (Option.some.inj H).symm) (by decide)
          rw [if_pos c38] at H
          have c38b0 : (t130 == 0) = true := beq_iff_eq.mpr c38
          have c38b1 : (t130 != 0) = false := bne_eq_false_iff_eq.mpr c38
          clear c38
          by_cases c39 : t134 = 0
          rotate_left
          · rw [if_neg c39] at H
            have c39b0 : (t134 == 0) = false := beq_eq_false_iff_ne.mpr c39
            have c39b1 : (t134 != 0) = true := bne_iff_ne.mpr c39
            exact absurd (hT.symm.trans (Option.some.inj H).symm) (by decide)
          rw [if_pos c39] at H
          have c39b0 : (t134 == 0) = true := beq_iff_eq.mpr c39
          have c39b1 : (t134 != 0) = false := bne_eq_false_iff_eq.mpr c39
          clear c39
          by_cases c40 : t138 = 0
          rotate_left
          · rw [if_neg c40] at H
            have c40b0 : (t138 == 0) = false := beq_eq_false_iff_ne.mpr c40
            have c40b1 : (t138 != 0) = true := bne_iff_ne.mpr c40
            exact absurd (hT.symm.trans (Option.some.inj H).symm) (by decide)
          rw [if_pos c40] at H
          have c40b0 : (t138 == 0) = true := beq_iff_eq.mpr c40
          have c40b1 : (t138 != 0) = false := bne_eq_false_iff_eq.mpr c40
          clear c40
          by_cases c41 : (t129.length : Int) = (t103.length : Int)
          rotate_left
          · rw [if_neg c41] at H
            have c41b0 : ((t129.length : Int) == (t103.length : Int)) = false := beq_eq_false_iff_ne.mpr c41
            have c41b1 : ((t129.length : Int) != (t103.length : Int)) = true := bne_iff_ne.mpr c41
            have c41b2 : (t129.length == t103.length) = false := by first | simpa using c41 | (simp at c41 ⊢; omega)
            exact absurd (hT.symm.trans (Option.some.inj H).symm) (by decide)
          rw [if_pos c41] at H
          have c41b0 : ((t129.length : Int) == (t103.length : Int)) = true := beq_iff_eq.mpr c41
          have c41b1 : ((t129.length : Int) != (t103.length : Int)) = false := bne_eq_false_iff_eq.mpr c41
          have c41b2 : (t129.length == t103.length) = true := by first | simpa using c41 | (simp at c41 ⊢; omega)
          clear c41
          by_cases c42 : (t133.length : Int) = (t103.length : Int)
          rotate_left
          · rw [if_neg c42] at H
            have c42b0 : ((t133.length : Int) == (t103.length : Int)) = false := beq_eq_false_iff_ne.mpr c42
            have c42b1 : ((t133.length : Int) != (t103.length : Int)) = true := bne_iff_ne.mpr c42
            have c42b2 : (t133.length == t103.length) = false := by first | simpa using c42 | (simp at c42 ⊢; omega)
            exact absurd (hT.symm.trans (Option.some.inj H).symm) (by decide)
          rw [if_pos c42] at H
          have c42b0 : ((t133.length : Int) == (t103.length : Int)) = true := beq_iff_eq.mpr c42
          have c42b1 : ((t133.length : Int) != (t103.length : Int)) = false := bne_eq_false_iff_eq.mpr c42
          have c42b2 : (t133.length == t103.length) = true := by first | simpa using c42 | (simp at c42 ⊢; omega)
          clear c42
          by_cases c43 : (t137.length : Int) ≤ (t103.length : Int)
          rotate_left
          · rw [if_neg c43] at H
            have c43b0 : decide ((t137.length : Int) ≤ (t103.length : Int)) = false := decide_eq_false c43
            have c43b1 : decide (t137.length ≤ t103.length) = false := decide_eq_false (fun h => c43 (Int.ofNat_le.mpr h))
            clear c43
            exact absurd (hT.symm.trans (Option.some.inj H).symm) (by decide)
          rw [if_pos c43] at H
          have c43b0 : decide ((t137.length : Int) ≤ (t103.length : Int)) = true := decide_eq_true c43
          have c43b1 : decide (t137.length ≤ t103.length) = true := decide_eq_true (Int.ofNat_le.mp c43)
          clear c43
          replace H := Option.bind_eq_some_iff.mp H
          obtain ⟨t141, A440, H⟩ := H
          replace H : (some t141) = some r := H
          have A44 := Aside0.mk A440
          clear A440
          clear hT
          obtain rfl := Option.some.inj H
          go_wp2_with (first | ((with_reducible refine gate_callee (f := 27) rfl ?_); refine goesL_ (some 89) rfl rfl Try.func27 (by kernel_rfl) rfl #[.slice Ao22 t107.length co22] rfl (by (try simp only [List.map_toArray, List.map_cons, List.map_nil]); first | done | rfl | (simp only [List.length_drop, List.length_take]; rfl)) ?_; (with_reducible refine (arm_Pieces.calls kj20 _ _ t107 t129 t130 _ ?side1 ?side2 A35.out).mono ?_); (case side1 => repeat (first | exact (Kd.R_reads' HO_7.out).2.2 | (with_reducible refine Kd.C_alloc ?_ _) | (with_reducible refine Kd.C_drewN ?_ _) | (with_reducible refine Kd.C_drew ?_))); (case side2 => exact (Kd.R_reads' HO_7.out).2.1); rintro e w45 ⟨v131, rfl, ho0, hb⟩; refine ⟨_, rfl, ?_⟩; have n0_ := Aside0.mk (Kd.R_elder' (by (with_reducible repeat (first | apply Kd.R_alloc | apply Kd.R_drewN | apply Kd.R_drew)); exact HO_5.out) (Kd.R_base ho0) hb); have n1_ := Aside0.mk (Kd.R_below (by (with_reducible repeat (first | apply Kd.R_alloc | apply Kd.R_drewN | apply Kd.R_drew)); exact HO_7.out) hb); have n2_ := Aside0.mk (Kd.R_below (by (with_reducible repeat (first | apply Kd.R_alloc | apply Kd.R_drewN | apply Kd.R_drew)); exact HO_9.out) hb); have n3_ := Aside0.mk (Kd.R_below (by (with_reducible repeat (first | apply Kd.R_alloc | apply Kd.R_drewN | apply Kd.R_drew)); exact HO_11.out) hb); have n4_ := Aside0.mk (Kd.R_lower (Kd.R_new' ho0 (Kd.R_lt (by (with_reducible repeat (first | apply Kd.R_alloc | apply Kd.R_drewN | apply Kd.R_drew)); exact HO_5.out))) (below_size (by repeat (first | (with_reducible first | exact HB.out | apply below_alloc | apply pw_below_drewN | apply below_drew1) | exact HB.out)))); have n5_ := Aside0.mk (below_step (by repeat (first | (with_reducible first | exact HB.out | apply below_alloc | apply pw_below_drewN | apply below_drew1) | exact HB.out)) hb); clear HO_5; clear HO_7; clear HO_9; clear HO_11; clear HB; have HO_5 := n0_; have HO_7 := n1_; have HO_9 := n2_; have HO_11 := n3_; have HO132 := n4_; have HB := n5_; clear n0_ n1_ n2_ n3_ n4_ n5_; (try clear hb); (try clear hb2); (try clear hk); (try clear hi); (try clear ho0)) | ((with_reducible refine gate_callee (f := 27) rfl ?_); refine goesL_ (some 94) rfl rfl Try.func27 (by kernel_rfl) rfl #[.slice Ao24 t111.length co24] rfl (by (try simp only [List.map_toArray, List.map_cons, List.map_nil]); first | done | rfl | (simp only [List.length_drop, List.length_take]; rfl)) ?_; (with_reducible refine (arm_Pieces.calls kj20 _ _ t111 t133 t134 _ ?side1 ?side2 A36.out).mono ?_); (case side1 => repeat (first | exact (Kd.R_reads' HO_9.out).2.2 | (with_reducible refine Kd.C_alloc ?_ _) | (with_reducible refine Kd.C_drewN ?_ _) | (with_reducible refine Kd.C_drew ?_))); (case side2 => exact (Kd.R_reads' HO_9.out).2.1); rintro e w46 ⟨v135, rfl, ho0, hb⟩; refine ⟨_, rfl, ?_⟩; have n0_ := Aside0.mk (Kd.R_elder' (by (with_reducible repeat (first | apply Kd.R_alloc | apply Kd.R_drewN | apply Kd.R_drew)); exact HO_5.out) (Kd.R_base ho0) hb); have n1_ := Aside0.mk (Kd.R_below (by (with_reducible repeat (first | apply Kd.R_alloc | apply Kd.R_drewN | apply Kd.R_drew)); exact HO_7.out) hb); have n2_ := Aside0.mk (Kd.R_below (by (with_reducible repeat (first | apply Kd.R_alloc | apply Kd.R_drewN | apply Kd.R_drew)); exact HO_9.out) hb); have n3_ := Aside0.mk (Kd.R_below (by (with_reducible repeat (first | apply Kd.R_alloc | apply Kd.R_drewN | apply Kd.R_drew)); exact HO_11.out) hb); have n4_ := Aside0.mk (Kd.R_elder' (by (with_reducible repeat (first | apply Kd.R_alloc | apply Kd.R_drewN | apply Kd.R_drew)); exact HO132.out) (Kd.R_base ho0) hb); have n5_ := Aside0.mk (Kd.R_lower (Kd.R_new' (Kd.R_new' ho0 (Kd.R_lt (by (with_reducible repeat (first | apply Kd.R_alloc | apply Kd.R_drewN | apply Kd.R_drew)); exact HO_5.out))) (Kd.R_lt (by (with_reducible repeat (first | apply Kd.R_alloc | apply Kd.R_drewN | apply Kd.R_drew)); exact HO132.out))) (below_size (by repeat (first | (with_reducible first | exact HB.out | apply below_alloc | apply pw_below_drewN | apply below_drew1) | exact HB.out)))); have n6_ := Aside0.mk (below_step (by repeat (first | (with_reducible first | exact HB.out | apply below_alloc | apply pw_below_drewN | apply below_drew1) | exact HB.out)) hb); clear HO_5; clear HO_7; clear HO_9; clear HO_11; clear HO132; clear HB; have HO_5 := n0_; have HO_7 := n1_; have HO_9 := n2_; have HO_11 := n3_; have HO132 := n4_; have HO136 := n5_; have HB := n6_; clear n0_ n1_ n2_ n3_ n4_ n5_ n6_; (try clear hb); (try clear hb2); (try clear hk); (try clear hi); (try clear ho0); obtain ⟨Ao47, co47, eo47⟩ := Kd.R_slice HO_11.out; subst eo47) | ((with_reducible refine gate_callee (f := 27) rfl ?_); refine goesL_ (some 99) rfl rfl Try.func27 (by kernel_rfl) rfl #[.slice Ao47 t115.length co47] rfl (by (try simp only [List.map_toArray, List.map_cons, List.map_nil]); first | done | rfl | (simp only [List.length_drop, List.length_take]; rfl)) ?_; (with_reducible refine (arm_Pieces.calls kj20 _ _ t115 t137 t138 _ ?side1 ?side2 A37.out).mono ?_); (case side1 => repeat (first | exact (Kd.R_reads' HO_11.out).2.2 | (with_reducible refine Kd.C_alloc ?_ _) | (with_reducible refine Kd.C_drewN ?_ _) | (with_reducible refine Kd.C_drew ?_))); (case side2 => exact (Kd.R_reads' HO_11.out).2.1); rintro e w48 ⟨v139, rfl, ho0, hb⟩; refine ⟨_, rfl, ?_⟩; have n0_ := Aside0.mk (Kd.R_elder' (by (with_reducible repeat (first | apply Kd.R_alloc | apply Kd.R_drewN | apply Kd.R_drew)); exact HO_5.out) (Kd.R_base ho0) hb); have n1_ := Aside0.mk (Kd.R_below (by (with_reducible repeat (first | apply Kd.R_alloc | apply Kd.R_drewN | apply Kd.R_drew)); exact HO_7.out) hb); have n2_ := Aside0.mk (Kd.R_below (by (with_reducible repeat (first | apply Kd.R_alloc | apply Kd.R_drewN | apply Kd.R_drew)); exact HO_9.out) hb); have n3_ := Aside0.mk (Kd.R_below (by (with_reducible repeat (first | apply Kd.R_alloc | apply Kd.R_drewN | apply Kd.R_drew)); exact HO_11.out) hb); have n4_ := Aside0.mk (Kd.R_elder' (by (with_reducible repeat (first | apply Kd.R_alloc | apply Kd.R_drewN | apply Kd.R_drew)); exact HO132.out) (Kd.R_base ho0) hb); have n5_ := Aside0.mk (Kd.R_elder' (by (with_reducible repeat (first | apply Kd.R_alloc | apply Kd.R_drewN | apply Kd.R_drew)); exact HO136.out) (Kd.R_base ho0) hb); have n6_ := Aside0.mk (Kd.R_lower (Kd.R_new' (Kd.R_new' (Kd.R_new' ho0 (Kd.R_lt (by (with_reducible repeat (first | apply Kd.R_alloc | apply Kd.R_drewN | apply Kd.R_drew)); exact HO_5.out))) (Kd.R_lt (by (with_reducible repeat (first | apply Kd.R_alloc | apply Kd.R_drewN | apply Kd.R_drew)); exact HO132.out))) (Kd.R_lt (by (with_reducible repeat (first | apply Kd.R_alloc | apply Kd.R_drewN | apply Kd.R_drew)); exact HO136.out))) (below_size (by repeat (first | (with_reducible first | exact HB.out | apply below_alloc | apply pw_below_drewN | apply below_drew1) | exact HB.out)))); have n7_ := Aside0.mk (below_step (by repeat (first | (with_reducible first | exact HB.out | apply below_alloc | apply pw_below_drewN | apply below_drew1) | exact HB.out)) hb); clear HO_5; clear HO_7; clear HO_9; clear HO_11; clear HO132; clear HO136; clear HB; have HO_5 := n0_; have HO_7 := n1_; have HO_9 := n2_; have HO_11 := n3_; have HO132 := n4_; have HO136 := n5_; have HO140 := n6_; have HB := n7_; clear n0_ n1_ n2_ n3_ n4_ n5_ n6_ n7_; (try clear hb); (try clear hb2); (try clear hk); (try clear hi); (try clear ho0); obtain ⟨Ao49, co49, eo49⟩ := Kd.R_slice HO132.out; subst eo49; obtain ⟨Ao50, co50, eo50⟩ := Kd.R_slice HO_5.out; subst eo50; obtain ⟨Ao51, co51, eo51⟩ := Kd.R_slice HO136.out; subst eo51; obtain ⟨Ao52, co52, eo52⟩ := Kd.R_slice HO140.out; subst eo52) | (go_at_call 14; (with_reducible refine (dropperlaw03_First.calls kj20  t141 _ A44.out).mono ?_); rintro e w53 ⟨rfl, hb⟩; have n0_ := Aside0.mk (Kd.R_below (by (with_reducible repeat (first | apply Kd.R_alloc | apply Kd.R_drewN | apply Kd.R_drew)); exact HO_5.out) hb); have n1_ := Aside0.mk (Kd.R_below (by (with_reducible repeat (first | apply Kd.R_alloc | apply Kd.R_drewN | apply Kd.R_drew)); exact HO_7.out) hb); have n2_ := Aside0.mk (Kd.R_below (by (with_reducible repeat (first | apply Kd.R_alloc | apply Kd.R_drewN | apply Kd.R_drew)); exact HO_9.out) hb); have n3_ := Aside0.mk (Kd.R_below (by (with_reducible repeat (first | apply Kd.R_alloc | apply Kd.R_drewN | apply Kd.R_drew)); exact HO_11.out) hb); have n4_ := Aside0.mk (Kd.R_below (by (with_reducible repeat (first | apply Kd.R_alloc | apply Kd.R_drewN | apply Kd.R_drew)); exact HO132.out) hb); have n5_ := Aside0.mk (Kd.R_below (by (with_reducible repeat (first | apply Kd.R_alloc | apply Kd.R_drewN | apply Kd.R_drew)); exact HO136.out) hb); have n6_ := Aside0.mk (Kd.R_below (by (with_reducible repeat (first | apply Kd.R_alloc | apply Kd.R_drewN | apply Kd.R_drew)); exact HO140.out) hb); have n7_ := Aside0.mk (below_step (by repeat (first | (with_reducible first | exact HB.out | apply below_alloc | apply pw_below_drewN | apply below_drew1) | exact HB.out)) hb); clear HO_5; clear HO_7; clear HO_9; clear HO_11; clear HO132; clear HO136; clear HO140; clear HB; have HO_5 := n0_; have HO_7 := n1_; have HO_9 := n2_; have HO_11 := n3_; have HO132 := n4_; have HO136 := n5_; have HO140 := n6_; have HB := n7_; clear n0_ n1_ n2_ n3_ n4_ n5_ n6_ n7_; (try clear hb); (try clear hb2); (try clear hk); (try clear hi)))
          go_ret
          exact ⟨by first | rfl | (simp [errW_none, errW_some] <;> rfl) | (simp [*, errW_none, errW_some] <;> rfl), by repeat (first | (with_reducible first | exact HB.out | apply below_alloc | apply pw_below_drewN | apply below_drew1) | exact HB.out)⟩
end Go.Proofs.Ytiapmkndgalgnaa.G
