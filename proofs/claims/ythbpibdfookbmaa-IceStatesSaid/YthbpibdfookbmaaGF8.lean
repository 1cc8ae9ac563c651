-- Written by this session's driver (wip/tools/printmore.py) over the kit's print, with hand-written parts.
import Derived.Test.YthbpibdfookbmaaGBase
import Derived.Test.YthbpibdfookbmaaGF12
import Derived.Test.YthbpibdfookbmaaGF30
import Derived.Test.YthbpibdfookbmaaGF42
import Derived.Test.YthbpibdfookbmaaGF20
import Derived.Test.YthbpibdfookbmaaGF35
import Derived.Test.YthbpibdfookbmaaGF41
import Derived.Test.YthbpibdfookbmaaGF37
import Derived.Test.YthbpibdfookbmaaGF39
namespace Go.Proofs.Ythbpibdfookbmaa.G
open Go.RowKit Go.Proofs.YthbpibdfookbmaaW.PrintWords Go.Proofs.YthbpibdfookbmaaW.PrintLast Go.Proofs.YthbpibdfookbmaaW.PrintMore
attribute [local go_sem] max2_int min2_int max_two min_two max_three min_three max_four min_four   -- for this text's walks alone
set_option linter.unusedVariables false
set_option linter.unusedSimpArgs false

/-! ### dropperlaw08_IceStates: function 8 -/
mutual
def dropperlaw08_IceStates.j0 : Nat → List Int → List Int → Bool → Int → Int → Option (Bool)
  | 0, _, _, _, _, _ => none
  | k + 1, x0, x1, x34, x602000, x602001 => if x34 = true then ((dropperlaw08_Awake.f k).bind fun t605 => (some t605)) else ((ice_For.f k x0 x1 (wrap64 (mn x602000 x602001))).bind fun bt606 => ((ice_For.f k x0 x1 (wrap64 (mx x602000 x602001))).bind fun bt608 => ((dropperref08_Count.f k x0).bind fun t610 => ((ice_For.f k x0 x1 t610).bind fun bt611 => (if bt606.2 = 0 then (if bt608.2 = 0 then (if bt611.2 = 0 then (if bt608.1 = true then (if bt606.1 = true then (if bt611.1 = true then (dropperlaw08_IceStates.j1 k x0 x1 bt611.1 (!bt608.1)) else (dropperlaw08_IceStates.j1 k x0 x1 bt611.1 false)) else (dropperlaw08_IceStates.j1 k x0 x1 bt611.1 true)) else (if bt611.1 = true then (dropperlaw08_IceStates.j1 k x0 x1 bt611.1 (!bt608.1)) else (dropperlaw08_IceStates.j1 k x0 x1 bt611.1 false))) else (dropperlaw08_IceStates.j1 k x0 x1 bt611.1 true)) else (dropperlaw08_IceStates.j1 k x0 x1 bt611.1 true)) else (dropperlaw08_IceStates.j1 k x0 x1 bt611.1 true))))))
def dropperlaw08_IceStates.j1 : Nat → List Int → List Int → Bool → Bool → Option (Bool)
  | 0, _, _, _, _ => none
  | k + 1, x0, x1, x13, x93 => if x93 = true then (some false) else ((ice_Choices.f k x0 x1).bind fun bt613 => (if bt613.2 = 0 then (dropperlaw08_IceStates.l0 k x0 x1 x13 bt613.1 false 0) else (some false)))
def dropperlaw08_IceStates.l0 : Nat → List Int → List Int → Bool → List Int → Bool → Int → Option (Bool)
  | 0, _, _, _, _, _, _ => none
  | k + 1, x0, x1, x13, x15, x16, x17 => if x17 < (x15.length : Int) then (if 0 ≤ x17 then ((ice_Tonight.f k x0 x1 (rd x15 x17)).bind fun bt619 => ((dropperref08_Count.f k x0).bind fun t623 => ((ice_For.f k x0 bt619.1 t623).bind fun bt624 => (if bt619.2 = 0 then (if bt624.2 = 0 then (if x16 = true then (dropperlaw08_IceStates.l0 k x0 x1 x13 x15 true (wrap64 (x17 + 1))) else (dropperlaw08_IceStates.l0 k x0 x1 x13 x15 bt624.1 (wrap64 (x17 + 1)))) else (some false)) else (some false))))) else (none)) else (if (x16 == x13) = true then ((dropperlaw08_Awake.f k).bind fun t617 => (some t617)) else (some false))
end
def dropperlaw08_IceStates.f (k : Nat) (l0 : List Int) (l1 : List Int) (a2_0 : Int) (a2_1 : Int) : Option (Bool) := (dropperlaw08_Many.f k l0 ([] : List (List Int))).bind fun t602 => (if t602 = true then (dropperlaw08_IceStates.j0 k l0 l1 true a2_0 a2_1) else ((dropperref08_Valid.f k l0).bind fun t603 => (if t603 = true then ((dropperref08_State.f k l0 l1).bind fun t604 => (dropperlaw08_IceStates.j0 k l0 l1 (!t604) a2_0 a2_1)) else (dropperlaw08_IceStates.j0 k l0 l1 true a2_0 a2_1))))
theorem dropperlaw08_IceStates.mono_l : ∀ k, (∀ y0 y1 y2 y3 y4, LeO (dropperlaw08_IceStates.j0 k y0 y1 y2 y3 y4) (dropperlaw08_IceStates.j0 (k + 1) y0 y1 y2 y3 y4)) ∧ (∀ y0 y1 y2 y3, LeO (dropperlaw08_IceStates.j1 k y0 y1 y2 y3) (dropperlaw08_IceStates.j1 (k + 1) y0 y1 y2 y3)) ∧ (∀ y0 y1 y2 y3 y4 y5, LeO (dropperlaw08_IceStates.l0 k y0 y1 y2 y3 y4 y5) (dropperlaw08_IceStates.l0 (k + 1) y0 y1 y2 y3 y4 y5))
  | 0 => ⟨fun _ _ _ _ _ r h => by simp [dropperlaw08_IceStates.j0] at h, fun _ _ _ _ r h => by simp [dropperlaw08_IceStates.j1] at h, fun _ _ _ _ _ _ r h => by simp [dropperlaw08_IceStates.l0] at h⟩
  | k + 1 => by
    obtain ⟨ih0, ih1, ih2⟩ := dropperlaw08_IceStates.mono_l k
    refine ⟨?_, ?_, ?_⟩
    · intro y0 y1 y2 y3 y4
      unfold dropperlaw08_IceStates.j0
      repeat' first
      | (with_reducible exact ih0 _ _ _ _ _)
      | (with_reducible exact ih1 _ _ _ _)
      | (with_reducible exact ih2 _ _ _ _ _ _)
      | (with_reducible exact dropperlaw08_Awake.mono _)
      | (with_reducible exact dropperlaw08_Many.mono _ _ _)
      | (with_reducible exact dropperref08_Count.mono _ _)
      | (with_reducible exact dropperref08_State.mono _ _ _)
      | (with_reducible exact dropperref08_Valid.mono _ _)
      | (with_reducible exact ice_Choices.mono _ _ _)
      | (with_reducible exact ice_For.mono _ _ _ _)
      | (with_reducible exact ice_Tonight.mono _ _ _ _)
      | (with_reducible exact LeO.refl _)
      | (with_reducible exact LeO.none _)
      | (with_reducible refine LeO.ite ?_ ?_)
      | (with_reducible refine LeO.bind ?_ (fun _ => ?_))
      | exact ih0 _ _ _ _ _
      | exact ih1 _ _ _ _
      | exact ih2 _ _ _ _ _ _
      | exact dropperlaw08_Awake.mono _
      | exact dropperlaw08_Many.mono _ _ _
      | exact dropperref08_Count.mono _ _
      | exact dropperref08_State.mono _ _ _
      | exact dropperref08_Valid.mono _ _
      | exact ice_Choices.mono _ _ _
      | exact ice_For.mono _ _ _ _
      | exact ice_Tonight.mono _ _ _ _
      | exact LeO.none _
      | refine LeO.ite ?_ ?_
      | refine LeO.bind ?_ (fun _ => ?_)
    · intro y0 y1 y2 y3
      unfold dropperlaw08_IceStates.j1
      repeat' first
      | (with_reducible exact ih0 _ _ _ _ _)
      | (with_reducible exact ih1 _ _ _ _)
      | (with_reducible exact ih2 _ _ _ _ _ _)
      | (with_reducible exact dropperlaw08_Awake.mono _)
      | (with_reducible exact dropperlaw08_Many.mono _ _ _)
      | (with_reducible exact dropperref08_Count.mono _ _)
      | (with_reducible exact dropperref08_State.mono _ _ _)
      | (with_reducible exact dropperref08_Valid.mono _ _)
      | (with_reducible exact ice_Choices.mono _ _ _)
      | (with_reducible exact ice_For.mono _ _ _ _)
      | (with_reducible exact ice_Tonight.mono _ _ _ _)
      | (with_reducible exact LeO.refl _)
      | (with_reducible exact LeO.none _)
      | (with_reducible refine LeO.ite ?_ ?_)
      | (with_reducible refine LeO.bind ?_ (fun _ => ?_))
      | exact ih0 _ _ _ _ _
      | exact ih1 _ _ _ _
      | exact ih2 _ _ _ _ _ _
      | exact dropperlaw08_Awake.mono _
      | exact dropperlaw08_Many.mono _ _ _
      | exact dropperref08_Count.mono _ _
      | exact dropperref08_State.mono _ _ _
      | exact dropperref08_Valid.mono _ _
      | exact ice_Choices.mono _ _ _
      | exact ice_For.mono _ _ _ _
      | exact ice_Tonight.mono _ _ _ _
      | exact LeO.none _
      | refine LeO.ite ?_ ?_
      | refine LeO.bind ?_ (fun _ => ?_)
    · intro y0 y1 y2 y3 y4 y5
      unfold dropperlaw08_IceStates.l0
      repeat' first
      | (with_reducible exact ih0 _ _ _ _ _)
      | (with_reducible exact ih1 _ _ _ _)
      | (with_reducible exact ih2 _ _ _ _ _ _)
      | (with_reducible exact dropperlaw08_Awake.mono _)
      | (with_reducible exact dropperlaw08_Many.mono _ _ _)
      | (with_reducible exact dropperref08_Count.mono _ _)
      | (with_reducible exact dropperref08_State.mono _ _ _)
      | (with_reducible exact dropperref08_Valid.mono _ _)
      | (with_reducible exact ice_Choices.mono _ _ _)
      | (with_reducible exact ice_For.mono _ _ _ _)
      | (with_reducible exact ice_Tonight.mono _ _ _ _)
      | (with_reducible exact LeO.refl _)
      | (with_reducible exact LeO.none _)
      | (with_reducible refine LeO.ite ?_ ?_)
      | (with_reducible refine LeO.bind ?_ (fun _ => ?_))
      | exact ih0 _ _ _ _ _
      | exact ih1 _ _ _ _
      | exact ih2 _ _ _ _ _ _
      | exact dropperlaw08_Awake.mono _
      | exact dropperlaw08_Many.mono _ _ _
      | exact dropperref08_Count.mono _ _
      | exact dropperref08_State.mono _ _ _
      | exact dropperref08_Valid.mono _ _
      | exact ice_Choices.mono _ _ _
      | exact ice_For.mono _ _ _ _
      | exact ice_Tonight.mono _ _ _ _
      | exact LeO.none _
      | refine LeO.ite ?_ ?_
      | refine LeO.bind ?_ (fun _ => ?_)
theorem dropperlaw08_IceStates.mono : ∀ a0 a1 a2 a3 k, LeO (dropperlaw08_IceStates.f k a0 a1 a2 a3) (dropperlaw08_IceStates.f (k + 1) a0 a1 a2 a3) := by
  intro a0 a1 a2 a3 k
  obtain ⟨ih0, ih1, ih2⟩ := dropperlaw08_IceStates.mono_l k
  unfold dropperlaw08_IceStates.f
  repeat' first
      | (with_reducible exact ih0 _ _ _ _ _)
      | (with_reducible exact ih1 _ _ _ _)
      | (with_reducible exact ih2 _ _ _ _ _ _)
      | (with_reducible exact dropperlaw08_Awake.mono _)
      | (with_reducible exact dropperlaw08_Many.mono _ _ _)
      | (with_reducible exact dropperref08_Count.mono _ _)
      | (with_reducible exact dropperref08_State.mono _ _ _)
      | (with_reducible exact dropperref08_Valid.mono _ _)
      | (with_reducible exact ice_Choices.mono _ _ _)
      | (with_reducible exact ice_For.mono _ _ _ _)
      | (with_reducible exact ice_Tonight.mono _ _ _ _)
      | (with_reducible exact LeO.refl _)
      | (with_reducible exact LeO.none _)
      | (with_reducible refine LeO.ite ?_ ?_)
      | (with_reducible refine LeO.bind ?_ (fun _ => ?_))
      | exact ih0 _ _ _ _ _
      | exact ih1 _ _ _ _
      | exact ih2 _ _ _ _ _ _
      | exact dropperlaw08_Awake.mono _
      | exact dropperlaw08_Many.mono _ _ _
      | exact dropperref08_Count.mono _ _
      | exact dropperref08_State.mono _ _ _
      | exact dropperref08_Valid.mono _ _
      | exact ice_Choices.mono _ _ _
      | exact ice_For.mono _ _ _ _
      | exact ice_Tonight.mono _ _ _ _
      | exact LeO.none _
      | refine LeO.ite ?_ ?_
      | refine LeO.bind ?_ (fun _ => ?_)
theorem dropperlaw08_IceStates.j1_no (k : Nat) (y0_ : List Int) (y1_ : List Int) (y13_ : Bool) : dropperlaw08_IceStates.j1 k y0_ y1_ y13_ true ≠ some true := by
  cases k with
  | zero => simp [dropperlaw08_IceStates.j1]
  | succ k => rw [dropperlaw08_IceStates.j1]; simp
set_option maxHeartbeats 8000000 in
set_option maxRecDepth 100000 in
theorem dropperlaw08_IceStates.calls (k : Nat) (A0 : Option Addr) (c0 : Nat) (l0 : List Int) (A1 : Option Addr) (c1 : Nat) (l1 : List Int) (a2_0 : Int) (a2_1 : Int) (r : Bool) (w : World) (hr0 : Kd.C (Kd.int .i64) w A0 l0.length l0) (hc0 : l0.length ≤ c0) (hr1 : Kd.C (Kd.int .i64) w A1 l1.length l1) (hc1 : l1.length ≤ c1) (h : dropperlaw08_IceStates.f k l0 l1 a2_0 a2_1 = some r) (hT : r = true) :
    Calls Try.prog 8 #[.slice A0 l0.length c0, .slice A1 l1.length c1, .agg #[.int .u16 a2_0, .int .u16 a2_1]] w fun e w' => e = .returned (.bool r) ∧ Below w.heap.size w w' := by
  have hu46 := Try.underlying46
  have HR0 := Aside0.mk hr0
  have HC0 := Aside0.mk hc0
  clear hr0 hc0
  have HR1 := Aside0.mk hr1
  have HC1 := Aside0.mk hc1
  clear hr1 hc1
  have HB := Aside0.mk (Below.refl w.heap.size w)
  have H : ((dropperlaw08_Many.f k l0 ([] : List (List Int))).bind fun t602 => (if t602 = true then (dropperlaw08_IceStates.j0 k l0 l1 true a2_0 a2_1) else ((dropperref08_Valid.f k l0).bind fun t603 => (if t603 = true then ((dropperref08_State.f k l0 l1).bind fun t604 => (dropperlaw08_IceStates.j0 k l0 l1 (!t604) a2_0 a2_1)) else (dropperlaw08_IceStates.j0 k l0 l1 true a2_0 a2_1))))) = some r := h
  clear h
  have HC4 := Aside0.mk H
  clear H
  go_enter Try.func8, Try.ntmps8
  go_upto_region 1 with (first | ((with_reducible refine gate_dst (N := 5) rfl ?_); refine box_event ?hg (N := 5) ?hd (cs := #[.int .u16 a2_0, .int .u16 a2_1]) (t := 46) ?hr ?_; (case hd => rfl); (case hg => rfl); (case hr => first | (go_simp; done) | (go_simp; rfl)); intro gb601 hg w5 hbox hb; have n0_ := Aside0.mk (below_step (by repeat (first | (with_reducible first | exact HB.out | apply below_alloc | apply pw_below_drewN | apply below_drew1) | exact HB.out)) hb); have n1_ := Aside0.mk (hbox); have n2_ := Aside0.mk ((by rw [hg]; exact (below_size (by repeat (first | (with_reducible first | exact HB.out | apply below_alloc | apply pw_below_drewN | apply below_drew1) | exact HB.out))) : w.heap.size ≤ gb601)); have n3_ := Aside0.mk ((by rw [hg]; exact (below_size (by repeat (first | (with_reducible first | exact HB.out | apply below_alloc | apply pw_below_drewN | apply below_drew1) | exact HB.out))) : w.heap.size ≤ gb601)); clear HB; have HB := n0_; have BK601 := n1_; have GW601 := n2_; have GE601 := n3_; clear n0_ n1_ n2_ n3_; clear hb hbox hg))
  repeat (go_quiet (first | ((with_reducible refine gate_dst (N := 5) rfl ?_); refine box_event ?hg (N := 5) ?hd (cs := #[.int .u16 a2_0, .int .u16 a2_1]) (t := 46) ?hr ?_; (case hd => rfl); (case hg => rfl); (case hr => first | (go_simp; done) | (go_simp; rfl)); intro gb601 hg w5 hbox hb; have n0_ := Aside0.mk (below_step (by repeat (first | (with_reducible first | exact HB.out | apply below_alloc | apply pw_below_drewN | apply below_drew1) | exact HB.out)) hb); have n1_ := Aside0.mk (hbox); have n2_ := Aside0.mk ((by rw [hg]; exact (below_size (by repeat (first | (with_reducible first | exact HB.out | apply below_alloc | apply pw_below_drewN | apply below_drew1) | exact HB.out))) : w.heap.size ≤ gb601)); have n3_ := Aside0.mk ((by rw [hg]; exact (below_size (by repeat (first | (with_reducible first | exact HB.out | apply below_alloc | apply pw_below_drewN | apply below_drew1) | exact HB.out))) : w.heap.size ≤ gb601)); clear HB; have HB := n0_; have BK601 := n1_; have GW601 := n2_; have GE601 := n3_; clear n0_ n1_ n2_ n3_; clear hb hbox hg)); go_upto_region 1 with (first | ((with_reducible refine gate_dst (N := 5) rfl ?_); refine box_event ?hg (N := 5) ?hd (cs := #[.int .u16 a2_0, .int .u16 a2_1]) (t := 46) ?hr ?_; (case hd => rfl); (case hg => rfl); (case hr => first | (go_simp; done) | (go_simp; rfl)); intro gb601 hg w5 hbox hb; have n0_ := Aside0.mk (below_step (by repeat (first | (with_reducible first | exact HB.out | apply below_alloc | apply pw_below_drewN | apply below_drew1) | exact HB.out)) hb); have n1_ := Aside0.mk (hbox); have n2_ := Aside0.mk ((by rw [hg]; exact (below_size (by repeat (first | (with_reducible first | exact HB.out | apply below_alloc | apply pw_below_drewN | apply below_drew1) | exact HB.out))) : w.heap.size ≤ gb601)); have n3_ := Aside0.mk ((by rw [hg]; exact (below_size (by repeat (first | (with_reducible first | exact HB.out | apply below_alloc | apply pw_below_drewN | apply below_drew1) | exact HB.out))) : w.heap.size ≤ gb601)); clear HB; have HB := n0_; have BK601 := n1_; have GW601 := n2_; have GE601 := n3_; clear n0_ n1_ n2_ n3_; clear hb hbox hg)))
  (try simp only [Act.put, List.setIfInBounds_toArray, List.set_cons_zero, List.set_cons_succ])
  go_cut [34] (fun v34 wc => ∃ (kq : Nat) (x34_3 : Bool), v34 = .bool x34_3 ∧ Aside0 (dropperlaw08_IceStates.j0 kq l0 l1 x34_3 a2_0 a2_1 = some r) ∧ Aside0 (kq ≤ k) ∧ Aside0 (wc.heap[gb601]? = some (.cells #[.int .u16 a2_0, .int .u16 a2_1] 46 (0, 0))) ∧ Aside0 (Below w.heap.size w wc))
  case first =>
    have H := HC4.out
    clear HC4
    replace H := Option.bind_eq_some_iff.mp H
    obtain ⟨t602, A60, H⟩ := H
    replace H : (if t602 = true then (dropperlaw08_IceStates.j0 k l0 l1 true a2_0 a2_1) else ((dropperref08_Valid.f k l0).bind fun t603 => (if t603 = true then ((dropperref08_State.f k l0 l1).bind fun t604 => (dropperlaw08_IceStates.j0 k l0 l1 (!t604) a2_0 a2_1)) else (dropperlaw08_IceStates.j0 k l0 l1 true a2_0 a2_1)))) = some r := H
    have A6 := Aside0.mk A60
    clear A60
    by_cases c7 : t602 = true
    · subst c7
      have H1 : (dropperlaw08_IceStates.j0 k l0 l1 true a2_0 a2_1) = some r := by rw [if_pos rfl] at H; exact H
      clear H
      have H := H1
      clear H1
      have H' := Aside0.mk H
      clear H
      go_wp2_with (first | (go_at_call 20; (refine (dropperlaw08_Many.calls k _ _ l0 _ _ ([] : List (List Int)) true _ ?side1 ?side2 ?side3 ?side4 A6.out).mono ?_); (case side1 => repeat (first | exact (Kd.C_below HR0.out HB.out) | (with_reducible refine Kd.C_alloc ?_ _) | (with_reducible refine Kd.C_drewN ?_ _) | (with_reducible refine Kd.C_drew ?_))); (case side2 => exact HC0.out); (case side3 => exact Kd.C_nil _ _); (case side4 => exact Nat.le_refl _); rintro e w' ⟨rfl, ⟨nd, rfl⟩⟩; (try first | exact ⟨rfl, _, World.drewN_drewN _ _ _⟩ | exact ⟨rfl, _, Eq.trans (World.drewN_drewN _ _ _) (congrArg (World.drewN _) (Nat.add_assoc _ _ _))⟩)))
      repeat (go_quiet (first | (go_at_call 20; (refine (dropperlaw08_Many.calls k _ _ l0 _ _ ([] : List (List Int)) true _ ?side1 ?side2 ?side3 ?side4 A6.out).mono ?_); (case side1 => repeat (first | exact (Kd.C_below HR0.out HB.out) | (with_reducible refine Kd.C_alloc ?_ _) | (with_reducible refine Kd.C_drewN ?_ _) | (with_reducible refine Kd.C_drew ?_))); (case side2 => exact HC0.out); (case side3 => exact Kd.C_nil _ _); (case side4 => exact Nat.le_refl _); rintro e w' ⟨rfl, ⟨nd, rfl⟩⟩; (try first | exact ⟨rfl, _, World.drewN_drewN _ _ _⟩ | exact ⟨rfl, _, Eq.trans (World.drewN_drewN _ _ _) (congrArg (World.drewN _) (Nat.add_assoc _ _ _))⟩))); try go_wp2_with (first | (go_at_call 20; (refine (dropperlaw08_Many.calls k _ _ l0 _ _ ([] : List (List Int)) true _ ?side1 ?side2 ?side3 ?side4 A6.out).mono ?_); (case side1 => repeat (first | exact (Kd.C_below HR0.out HB.out) | (with_reducible refine Kd.C_alloc ?_ _) | (with_reducible refine Kd.C_drewN ?_ _) | (with_reducible refine Kd.C_drew ?_))); (case side2 => exact HC0.out); (case side3 => exact Kd.C_nil _ _); (case side4 => exact Nat.le_refl _); rintro e w' ⟨rfl, ⟨nd, rfl⟩⟩; (try first | exact ⟨rfl, _, World.drewN_drewN _ _ _⟩ | exact ⟨rfl, _, Eq.trans (World.drewN_drewN _ _ _) (congrArg (World.drewN _) (Nat.add_assoc _ _ _))⟩))))
      go_meet
      case rel => exact ⟨_, (true), (by first | rfl | (simp; done) | (simp [*]; done)), H', ⟨by first | omega | exact Nat.le_refl _⟩, ⟨bkU BK601⟩, ⟨by repeat (first | (with_reducible first | exact HB.out | apply below_alloc | apply pw_below_drewN | apply below_drew1 | refine below_set ?_ GE601.out) | exact HB.out)⟩⟩
    replace c7 := Bool.eq_false_iff.mpr c7
    subst c7
    have H1 : ((dropperref08_Valid.f k l0).bind fun t603 => (if t603 = true then ((dropperref08_State.f k l0 l1).bind fun t604 => (dropperlaw08_IceStates.j0 k l0 l1 (!t604) a2_0 a2_1)) else (dropperlaw08_IceStates.j0 k l0 l1 true a2_0 a2_1))) = some r := by rw [if_neg (show ¬ (false = true) by decide)] at H; exact H
    clear H
    have H := H1
    clear H1
    replace H := Option.bind_eq_some_iff.mp H
    obtain ⟨t603, A80, H⟩ := H
    replace H : (if t603 = true then ((dropperref08_State.f k l0 l1).bind fun t604 => (dropperlaw08_IceStates.j0 k l0 l1 (!t604) a2_0 a2_1)) else (dropperlaw08_IceStates.j0 k l0 l1 true a2_0 a2_1)) = some r := H
    have A8 := Aside0.mk A80
    clear A80
    by_cases c9 : t603 = true
    rotate_left
    · replace c9 := Bool.eq_false_iff.mpr c9
      subst c9
      have H1 : (dropperlaw08_IceStates.j0 k l0 l1 true a2_0 a2_1) = some r := by rw [if_neg (show ¬ (false = true) by decide)] at H; exact H
      clear H
      have H := H1
      clear H1
      have H' := Aside0.mk H
      clear H
      go_wp2_with (first | (go_at_call 20; (refine (dropperlaw08_Many.calls k _ _ l0 _ _ ([] : List (List Int)) false _ ?side1 ?side2 ?side3 ?side4 A6.out).mono ?_); (case side1 => repeat (first | exact (Kd.C_below HR0.out HB.out) | (with_reducible refine Kd.C_alloc ?_ _) | (with_reducible refine Kd.C_drewN ?_ _) | (with_reducible refine Kd.C_drew ?_))); (case side2 => exact HC0.out); (case side3 => exact Kd.C_nil _ _); (case side4 => exact Nat.le_refl _); rintro e w' ⟨rfl, ⟨nd, rfl⟩⟩; (try first | exact ⟨rfl, _, World.drewN_drewN _ _ _⟩ | exact ⟨rfl, _, Eq.trans (World.drewN_drewN _ _ _) (congrArg (World.drewN _) (Nat.add_assoc _ _ _))⟩)) | (go_at_call 30; (with_reducible refine (dropperref08_Valid.calls k _ _ l0 false _ ?side1 ?side2 A8.out).mono ?_); (case side1 => repeat (first | exact (Kd.C_below HR0.out (by repeat (first | (with_reducible first | exact HB.out | apply below_alloc | apply pw_below_drewN | apply below_drew1 | refine below_set ?_ GE601.out) | exact HB.out))) | (with_reducible refine Kd.C_alloc ?_ _) | (with_reducible refine Kd.C_drewN ?_ _) | (with_reducible refine Kd.C_drew ?_))); (case side2 => exact HC0.out); rintro e w' ⟨rfl, ⟨nd, rfl⟩⟩; (try first | exact ⟨rfl, _, World.drewN_drewN _ _ _⟩ | exact ⟨rfl, _, Eq.trans (World.drewN_drewN _ _ _) (congrArg (World.drewN _) (Nat.add_assoc _ _ _))⟩)))
      repeat (go_quiet (first | (go_at_call 20; (refine (dropperlaw08_Many.calls k _ _ l0 _ _ ([] : List (List Int)) false _ ?side1 ?side2 ?side3 ?side4 A6.out).mono ?_); (case side1 => repeat (first | exact (Kd.C_below HR0.out HB.out) | (with_reducible refine Kd.C_alloc ?_ _) | (with_reducible refine Kd.C_drewN ?_ _) | (with_reducible refine Kd.C_drew ?_))); (case side2 => exact HC0.out); (case side3 => exact Kd.C_nil _ _); (case side4 => exact Nat.le_refl _); rintro e w' ⟨rfl, ⟨nd, rfl⟩⟩; (try first | exact ⟨rfl, _, World.drewN_drewN _ _ _⟩ | exact ⟨rfl, _, Eq.trans (World.drewN_drewN _ _ _) (congrArg (World.drewN _) (Nat.add_assoc _ _ _))⟩)) | (go_at_call 30; (with_reducible refine (dropperref08_Valid.calls k _ _ l0 false _ ?side1 ?side2 A8.out).mono ?_); (case side1 => repeat (first | exact (Kd.C_below HR0.out (by repeat (first | (with_reducible first | exact HB.out | apply below_alloc | apply pw_below_drewN | apply below_drew1 | refine below_set ?_ GE601.out) | exact HB.out))) | (with_reducible refine Kd.C_alloc ?_ _) | (with_reducible refine Kd.C_drewN ?_ _) | (with_reducible refine Kd.C_drew ?_))); (case side2 => exact HC0.out); rintro e w' ⟨rfl, ⟨nd, rfl⟩⟩; (try first | exact ⟨rfl, _, World.drewN_drewN _ _ _⟩ | exact ⟨rfl, _, Eq.trans (World.drewN_drewN _ _ _) (congrArg (World.drewN _) (Nat.add_assoc _ _ _))⟩))); try go_wp2_with (first | (go_at_call 20; (refine (dropperlaw08_Many.calls k _ _ l0 _ _ ([] : List (List Int)) false _ ?side1 ?side2 ?side3 ?side4 A6.out).mono ?_); (case side1 => repeat (first | exact (Kd.C_below HR0.out HB.out) | (with_reducible refine Kd.C_alloc ?_ _) | (with_reducible refine Kd.C_drewN ?_ _) | (with_reducible refine Kd.C_drew ?_))); (case side2 => exact HC0.out); (case side3 => exact Kd.C_nil _ _); (case side4 => exact Nat.le_refl _); rintro e w' ⟨rfl, ⟨nd, rfl⟩⟩; (try first | exact ⟨rfl, _, World.drewN_drewN _ _ _⟩ | exact ⟨rfl, _, Eq.trans (World.drewN_drewN _ _ _) (congrArg (World.drewN _) (Nat.add_assoc _ _ _))⟩)) | (go_at_call 30; (with_reducible refine (dropperref08_Valid.calls k _ _ l0 false _ ?side1 ?side2 A8.out).mono ?_); (case side1 => repeat (first | exact (Kd.C_below HR0.out (by repeat (first | (with_reducible first | exact HB.out | apply below_alloc | apply pw_below_drewN | apply below_drew1 | refine below_set ?_ GE601.out) | exact HB.out))) | (with_reducible refine Kd.C_alloc ?_ _) | (with_reducible refine Kd.C_drewN ?_ _) | (with_reducible refine Kd.C_drew ?_))); (case side2 => exact HC0.out); rintro e w' ⟨rfl, ⟨nd, rfl⟩⟩; (try first | exact ⟨rfl, _, World.drewN_drewN _ _ _⟩ | exact ⟨rfl, _, Eq.trans (World.drewN_drewN _ _ _) (congrArg (World.drewN _) (Nat.add_assoc _ _ _))⟩))))
      go_meet
      case rel => exact ⟨_, (true), (by first | rfl | (simp; done) | (simp [*]; done)), H', ⟨by first | omega | exact Nat.le_refl _⟩, ⟨bkU BK601⟩, ⟨by repeat (first | (with_reducible first | exact HB.out | apply below_alloc | apply pw_below_drewN | apply below_drew1 | refine below_set ?_ GE601.out) | exact HB.out)⟩⟩
    subst c9
    have H1 : ((dropperref08_State.f k l0 l1).bind fun t604 => (dropperlaw08_IceStates.j0 k l0 l1 (!t604) a2_0 a2_1)) = some r := by rw [if_pos rfl] at H; exact H
    clear H
    have H := H1
    clear H1
    replace H := Option.bind_eq_some_iff.mp H
    obtain ⟨t604, A100, H⟩ := H
    replace H : (dropperlaw08_IceStates.j0 k l0 l1 (!t604) a2_0 a2_1) = some r := H
    have A10 := Aside0.mk A100
    clear A100
    have H' := Aside0.mk H
    clear H
    go_wp2_with (first | (go_at_call 20; (refine (dropperlaw08_Many.calls k _ _ l0 _ _ ([] : List (List Int)) false _ ?side1 ?side2 ?side3 ?side4 A6.out).mono ?_); (case side1 => repeat (first | exact (Kd.C_below HR0.out HB.out) | (with_reducible refine Kd.C_alloc ?_ _) | (with_reducible refine Kd.C_drewN ?_ _) | (with_reducible refine Kd.C_drew ?_))); (case side2 => exact HC0.out); (case side3 => exact Kd.C_nil _ _); (case side4 => exact Nat.le_refl _); rintro e w' ⟨rfl, ⟨nd, rfl⟩⟩; (try first | exact ⟨rfl, _, World.drewN_drewN _ _ _⟩ | exact ⟨rfl, _, Eq.trans (World.drewN_drewN _ _ _) (congrArg (World.drewN _) (Nat.add_assoc _ _ _))⟩)) | (go_at_call 30; (with_reducible refine (dropperref08_Valid.calls k _ _ l0 true _ ?side1 ?side2 A8.out).mono ?_); (case side1 => repeat (first | exact (Kd.C_below HR0.out (by repeat (first | (with_reducible first | exact HB.out | apply below_alloc | apply pw_below_drewN | apply below_drew1 | refine below_set ?_ GE601.out) | exact HB.out))) | (with_reducible refine Kd.C_alloc ?_ _) | (with_reducible refine Kd.C_drewN ?_ _) | (with_reducible refine Kd.C_drew ?_))); (case side2 => exact HC0.out); rintro e w' ⟨rfl, ⟨nd, rfl⟩⟩; (try first | exact ⟨rfl, _, World.drewN_drewN _ _ _⟩ | exact ⟨rfl, _, Eq.trans (World.drewN_drewN _ _ _) (congrArg (World.drewN _) (Nat.add_assoc _ _ _))⟩)) | (go_at_call 41; (with_reducible refine (dropperref08_State.calls k _ _ l0 _ _ l1 t604 _ ?side1 ?side2 ?side3 ?side4 A10.out).mono ?_); (case side1 => repeat (first | exact (Kd.C_below HR0.out (by repeat (first | (with_reducible first | exact HB.out | apply below_alloc | apply pw_below_drewN | apply below_drew1 | refine below_set ?_ GE601.out) | exact HB.out))) | (with_reducible refine Kd.C_alloc ?_ _) | (with_reducible refine Kd.C_drewN ?_ _) | (with_reducible refine Kd.C_drew ?_))); (case side2 => exact HC0.out); (case side3 => repeat (first | exact (Kd.C_below HR1.out (by repeat (first | (with_reducible first | exact HB.out | apply below_alloc | apply pw_below_drewN | apply below_drew1 | refine below_set ?_ GE601.out) | exact HB.out))) | (with_reducible refine Kd.C_alloc ?_ _) | (with_reducible refine Kd.C_drewN ?_ _) | (with_reducible refine Kd.C_drew ?_))); (case side4 => exact HC1.out); rintro e w' ⟨rfl, ⟨nd, rfl⟩⟩; (try first | exact ⟨rfl, _, World.drewN_drewN _ _ _⟩ | exact ⟨rfl, _, Eq.trans (World.drewN_drewN _ _ _) (congrArg (World.drewN _) (Nat.add_assoc _ _ _))⟩)))
    repeat (go_quiet (first | (go_at_call 20; (refine (dropperlaw08_Many.calls k _ _ l0 _ _ ([] : List (List Int)) false _ ?side1 ?side2 ?side3 ?side4 A6.out).mono ?_); (case side1 => repeat (first | exact (Kd.C_below HR0.out HB.out) | (with_reducible refine Kd.C_alloc ?_ _) | (with_reducible refine Kd.C_drewN ?_ _) | (with_reducible refine Kd.C_drew ?_))); (case side2 => exact HC0.out); (case side3 => exact Kd.C_nil _ _); (case side4 => exact Nat.le_refl _); rintro e w' ⟨rfl, ⟨nd, rfl⟩⟩; (try first | exact ⟨rfl, _, World.drewN_drewN _ _ _⟩ | exact ⟨rfl, _, Eq.trans (World.drewN_drewN _ _ _) (congrArg (World.drewN _) (Nat.add_assoc _ _ _))⟩)) | (go_at_call 30; (with_reducible refine (dropperref08_Valid.calls k _ _ l0 true _ ?side1 ?side2 A8.out).mono ?_); (case side1 => repeat (first | exact (Kd.C_below HR0.out (by repeat (first | (with_reducible first | exact HB.out | apply below_alloc | apply pw_below_drewN | apply below_drew1 | refine below_set ?_ GE601.out) | exact HB.out))) | (with_reducible refine Kd.C_alloc ?_ _) | (with_reducible refine Kd.C_drewN ?_ _) | (with_reducible refine Kd.C_drew ?_))); (case side2 => exact HC0.out); rintro e w' ⟨rfl, ⟨nd, rfl⟩⟩; (try first | exact ⟨rfl, _, World.drewN_drewN _ _ _⟩ | exact ⟨rfl, _, Eq.trans (World.drewN_drewN _ _ _) (congrArg (World.drewN _) (Nat.add_assoc _ _ _))⟩)) | (go_at_call 41; (with_reducible refine (dropperref08_State.calls k _ _ l0 _ _ l1 t604 _ ?side1 ?side2 ?side3 ?side4 A10.out).mono ?_); (case side1 => repeat (first | exact (Kd.C_below HR0.out (by repeat (first | (with_reducible first | exact HB.out | apply below_alloc | apply pw_below_drewN | apply below_drew1 | refine below_set ?_ GE601.out) | exact HB.out))) | (with_reducible refine Kd.C_alloc ?_ _) | (with_reducible refine Kd.C_drewN ?_ _) | (with_reducible refine Kd.C_drew ?_))); (case side2 => exact HC0.out); (case side3 => repeat (first | exact (Kd.C_below HR1.out (by repeat (first | (with_reducible first | exact HB.out | apply below_alloc | apply pw_below_drewN | apply below_drew1 | refine below_set ?_ GE601.out) | exact HB.out))) | (with_reducible refine Kd.C_alloc ?_ _) | (with_reducible refine Kd.C_drewN ?_ _) | (with_reducible refine Kd.C_drew ?_))); (case side4 => exact HC1.out); rintro e w' ⟨rfl, ⟨nd, rfl⟩⟩; (try first | exact ⟨rfl, _, World.drewN_drewN _ _ _⟩ | exact ⟨rfl, _, Eq.trans (World.drewN_drewN _ _ _) (congrArg (World.drewN _) (Nat.add_assoc _ _ _))⟩))); try go_wp2_with (first | (go_at_call 20; (refine (dropperlaw08_Many.calls k _ _ l0 _ _ ([] : List (List Int)) false _ ?side1 ?side2 ?side3 ?side4 A6.out).mono ?_); (case side1 => repeat (first | exact (Kd.C_below HR0.out HB.out) | (with_reducible refine Kd.C_alloc ?_ _) | (with_reducible refine Kd.C_drewN ?_ _) | (with_reducible refine Kd.C_drew ?_))); (case side2 => exact HC0.out); (case side3 => exact Kd.C_nil _ _); (case side4 => exact Nat.le_refl _); rintro e w' ⟨rfl, ⟨nd, rfl⟩⟩; (try first | exact ⟨rfl, _, World.drewN_drewN _ _ _⟩ | exact ⟨rfl, _, Eq.trans (World.drewN_drewN _ _ _) (congrArg (World.drewN _) (Nat.add_assoc _ _ _))⟩)) | (go_at_call 30; (with_reducible refine (dropperref08_Valid.calls k _ _ l0 true _ ?side1 ?side2 A8.out).mono ?_); (case side1 => repeat (first | exact (Kd.C_below HR0.out (by repeat (first | (with_reducible first | exact HB.out | apply below_alloc | apply pw_below_drewN | apply below_drew1 | refine below_set ?_ GE601.out) | exact HB.out))) | (with_reducible refine Kd.C_alloc ?_ _) | (with_reducible refine Kd.C_drewN ?_ _) | (with_reducible refine Kd.C_drew ?_))); (case side2 => exact HC0.out); rintro e w' ⟨rfl, ⟨nd, rfl⟩⟩; (try first | exact ⟨rfl, _, World.drewN_drewN _ _ _⟩ | exact ⟨rfl, _, Eq.trans (World.drewN_drewN _ _ _) (congrArg (World.drewN _) (Nat.add_assoc _ _ _))⟩)) | (go_at_call 41; (with_reducible refine (dropperref08_State.calls k _ _ l0 _ _ l1 t604 _ ?side1 ?side2 ?side3 ?side4 A10.out).mono ?_); (case side1 => repeat (first | exact (Kd.C_below HR0.out (by repeat (first | (with_reducible first | exact HB.out | apply below_alloc | apply pw_below_drewN | apply below_drew1 | refine below_set ?_ GE601.out) | exact HB.out))) | (with_reducible refine Kd.C_alloc ?_ _) | (with_reducible refine Kd.C_drewN ?_ _) | (with_reducible refine Kd.C_drew ?_))); (case side2 => exact HC0.out); (case side3 => repeat (first | exact (Kd.C_below HR1.out (by repeat (first | (with_reducible first | exact HB.out | apply below_alloc | apply pw_below_drewN | apply below_drew1 | refine below_set ?_ GE601.out) | exact HB.out))) | (with_reducible refine Kd.C_alloc ?_ _) | (with_reducible refine Kd.C_drewN ?_ _) | (with_reducible refine Kd.C_drew ?_))); (case side4 => exact HC1.out); rintro e w' ⟨rfl, ⟨nd, rfl⟩⟩; (try first | exact ⟨rfl, _, World.drewN_drewN _ _ _⟩ | exact ⟨rfl, _, Eq.trans (World.drewN_drewN _ _ _) (congrArg (World.drewN _) (Nat.add_assoc _ _ _))⟩))))
    go_meet
    case rel => exact ⟨_, (!t604), (by first | rfl | (simp; done) | (simp [*]; done)), H', ⟨by first | omega | exact Nat.le_refl _⟩, ⟨bkU BK601⟩, ⟨by repeat (first | (with_reducible first | exact HB.out | apply below_alloc | apply pw_below_drewN | apply below_drew1 | refine below_set ?_ GE601.out) | exact HB.out)⟩⟩
  case rest =>
    clear HC4
    try clear c1
    try clear p2
    try clear c7
    try clear c8
    try clear c9
    obtain ⟨kq, x34_3, rfl, HA, HJ3, BK601, HB⟩ := hcut
    cases kq with
    | zero => exact absurd HA.out (by simp [dropperlaw08_IceStates.j0])
    | succ kj3 =>
      have H := HA.out
      clear HA
      simp only [dropperlaw08_IceStates.j0] at H
      by_cases c11 : x34_3 = true
      · subst c11
        have H1 : ((dropperlaw08_Awake.f kj3).bind fun t605 => (some t605)) = some r := by rw [if_pos rfl] at H; exact H
        clear H
        have H := H1
        clear H1
        replace H := Option.bind_eq_some_iff.mp H
        obtain ⟨t605, A120, H⟩ := H
        replace H : (some t605) = some r := H
        have A12 := Aside0.mk A120
        clear A120
        clear hT
        obtain rfl := Option.some.inj H
        go_wp2_with (first | (go_at_call 12; (with_reducible refine (dropperlaw08_Awake.calls kj3  t605 _ A12.out).mono ?_); rintro e w13 ⟨rfl, hb⟩; have n0_ := Aside0.mk (bkB BK601 hb); have n1_ := Aside0.mk (below_step (by repeat (first | (with_reducible first | exact HB.out | apply below_alloc | apply pw_below_drewN | apply below_drew1 | refine below_set ?_ GE601.out) | exact HB.out)) hb); clear BK601; clear HB; have BK601 := n0_; have HB := n1_; clear n0_ n1_; (try clear hb); (try clear hb2); (try clear hk); (try clear hi)))
        repeat (go_quiet (first | (go_at_call 12; (with_reducible refine (dropperlaw08_Awake.calls kj3  t605 _ A12.out).mono ?_); rintro e w13 ⟨rfl, hb⟩; have n0_ := Aside0.mk (bkB BK601 hb); have n1_ := Aside0.mk (below_step (by repeat (first | (with_reducible first | exact HB.out | apply below_alloc | apply pw_below_drewN | apply below_drew1 | refine below_set ?_ GE601.out) | exact HB.out)) hb); clear BK601; clear HB; have BK601 := n0_; have HB := n1_; clear n0_ n1_; (try clear hb); (try clear hb2); (try clear hk); (try clear hi))); try go_wp2_with (first | (go_at_call 12; (with_reducible refine (dropperlaw08_Awake.calls kj3  t605 _ A12.out).mono ?_); rintro e w13 ⟨rfl, hb⟩; have n0_ := Aside0.mk (bkB BK601 hb); have n1_ := Aside0.mk (below_step (by repeat (first | (with_reducible first | exact HB.out | apply below_alloc | apply pw_below_drewN | apply below_drew1 | refine below_set ?_ GE601.out) | exact HB.out)) hb); clear BK601; clear HB; have BK601 := n0_; have HB := n1_; clear n0_ n1_; (try clear hb); (try clear hb2); (try clear hk); (try clear hi))))
        go_ret
        exact ⟨by first | rfl | (simp [errW_none, errW_some] <;> rfl) | (simp [*, errW_none, errW_some] <;> rfl), by repeat (first | (with_reducible first | exact HB.out | apply below_alloc | apply pw_below_drewN | apply below_drew1 | refine below_set ?_ GE601.out) | exact HB.out)⟩
      replace c11 := Bool.eq_false_iff.mpr c11
      subst c11
      have H1 : ((ice_For.f kj3 l0 l1 (wrap64 (mn a2_0 a2_1))).bind fun bt606 => ((ice_For.f kj3 l0 l1 (wrap64 (mx a2_0 a2_1))).bind fun bt608 => ((dropperref08_Count.f kj3 l0).bind fun t610 => ((ice_For.f kj3 l0 l1 t610).bind fun bt611 => (if bt606.2 = 0 then (if bt608.2 = 0 then (if bt611.2 = 0 then (if bt608.1 = true then (if bt606.1 = true then (if bt611.1 = true then (dropperlaw08_IceStates.j1 kj3 l0 l1 bt611.1 (!bt608.1)) else (dropperlaw08_IceStates.j1 kj3 l0 l1 bt611.1 false)) else (dropperlaw08_IceStates.j1 kj3 l0 l1 bt611.1 true)) else (if bt611.1 = true then (dropperlaw08_IceStates.j1 kj3 l0 l1 bt611.1 (!bt608.1)) else (dropperlaw08_IceStates.j1 kj3 l0 l1 bt611.1 false))) else (dropperlaw08_IceStates.j1 kj3 l0 l1 bt611.1 true)) else (dropperlaw08_IceStates.j1 kj3 l0 l1 bt611.1 true)) else (dropperlaw08_IceStates.j1 kj3 l0 l1 bt611.1 true)))))) = some r := by rw [if_neg (show ¬ (false = true) by decide)] at H; exact H
      clear H
      have H := H1
      clear H1
      obtain ⟨ji14, hji14⟩ : ∃ j_ : Int, (mn a2_0 a2_1) = j_ := ⟨_, rfl⟩
      replace H : ((ice_For.f kj3 l0 l1 (wrap64 (ji14))).bind fun bt606 => ((ice_For.f kj3 l0 l1 (wrap64 (mx a2_0 a2_1))).bind fun bt608 => ((dropperref08_Count.f kj3 l0).bind fun t610 => ((ice_For.f kj3 l0 l1 t610).bind fun bt611 => (if bt606.2 = 0 then (if bt608.2 = 0 then (if bt611.2 = 0 then (if bt608.1 = true then (if bt606.1 = true then (if bt611.1 = true then (dropperlaw08_IceStates.j1 kj3 l0 l1 bt611.1 (!bt608.1)) else (dropperlaw08_IceStates.j1 kj3 l0 l1 bt611.1 false)) else (dropperlaw08_IceStates.j1 kj3 l0 l1 bt611.1 true)) else (if bt611.1 = true then (dropperlaw08_IceStates.j1 kj3 l0 l1 bt611.1 (!bt608.1)) else (dropperlaw08_IceStates.j1 kj3 l0 l1 bt611.1 false))) else (dropperlaw08_IceStates.j1 kj3 l0 l1 bt611.1 true)) else (dropperlaw08_IceStates.j1 kj3 l0 l1 bt611.1 true)) else (dropperlaw08_IceStates.j1 kj3 l0 l1 bt611.1 true)))))) = some r := by first | (rw [hji14] at H; exact H) | (simp only [hji14] at H ⊢; exact H)
      have hji14_ : (if a2_1 < a2_0 then a2_1 else a2_0) = ji14 := hji14
      obtain ⟨ji15, hji15⟩ : ∃ j_ : Int, (mx a2_0 a2_1) = j_ := ⟨_, rfl⟩
      replace H : ((ice_For.f kj3 l0 l1 (wrap64 (ji14))).bind fun bt606 => ((ice_For.f kj3 l0 l1 (wrap64 (ji15))).bind fun bt608 => ((dropperref08_Count.f kj3 l0).bind fun t610 => ((ice_For.f kj3 l0 l1 t610).bind fun bt611 => (if bt606.2 = 0 then (if bt608.2 = 0 then (if bt611.2 = 0 then (if bt608.1 = true then (if bt606.1 = true then (if bt611.1 = true then (dropperlaw08_IceStates.j1 kj3 l0 l1 bt611.1 (!bt608.1)) else (dropperlaw08_IceStates.j1 kj3 l0 l1 bt611.1 false)) else (dropperlaw08_IceStates.j1 kj3 l0 l1 bt611.1 true)) else (if bt611.1 = true then (dropperlaw08_IceStates.j1 kj3 l0 l1 bt611.1 (!bt608.1)) else (dropperlaw08_IceStates.j1 kj3 l0 l1 bt611.1 false))) else (dropperlaw08_IceStates.j1 kj3 l0 l1 bt611.1 true)) else (dropperlaw08_IceStates.j1 kj3 l0 l1 bt611.1 true)) else (dropperlaw08_IceStates.j1 kj3 l0 l1 bt611.1 true)))))) = some r := by first | (rw [hji15] at H; exact H) | (simp only [hji15] at H ⊢; exact H)
      have hji15_ : (if a2_0 < a2_1 then a2_1 else a2_0) = ji15 := hji15
      replace H := Option.bind_eq_some_iff.mp H
      obtain ⟨⟨t606, t607⟩, A160, H⟩ := H
      replace H : ((ice_For.f kj3 l0 l1 (wrap64 (ji15))).bind fun bt608 => ((dropperref08_Count.f kj3 l0).bind fun t610 => ((ice_For.f kj3 l0 l1 t610).bind fun bt611 => (if t607 = 0 then (if bt608.2 = 0 then (if bt611.2 = 0 then (if bt608.1 = true then (if t606 = true then (if bt611.1 = true then (dropperlaw08_IceStates.j1 kj3 l0 l1 bt611.1 (!bt608.1)) else (dropperlaw08_IceStates.j1 kj3 l0 l1 bt611.1 false)) else (dropperlaw08_IceStates.j1 kj3 l0 l1 bt611.1 true)) else (if bt611.1 = true then (dropperlaw08_IceStates.j1 kj3 l0 l1 bt611.1 (!bt608.1)) else (dropperlaw08_IceStates.j1 kj3 l0 l1 bt611.1 false))) else (dropperlaw08_IceStates.j1 kj3 l0 l1 bt611.1 true)) else (dropperlaw08_IceStates.j1 kj3 l0 l1 bt611.1 true)) else (dropperlaw08_IceStates.j1 kj3 l0 l1 bt611.1 true))))) = some r := H
      have A16 := Aside0.mk A160
      clear A160
      replace H := Option.bind_eq_some_iff.mp H
      obtain ⟨⟨t608, t609⟩, A170, H⟩ := H
      replace H : ((dropperref08_Count.f kj3 l0).bind fun t610 => ((ice_For.f kj3 l0 l1 t610).bind fun bt611 => (if t607 = 0 then (if t609 = 0 then (if bt611.2 = 0 then (if t608 = true then (if t606 = true then (if bt611.1 = true then (dropperlaw08_IceStates.j1 kj3 l0 l1 bt611.1 (!t608)) else (dropperlaw08_IceStates.j1 kj3 l0 l1 bt611.1 false)) else (dropperlaw08_IceStates.j1 kj3 l0 l1 bt611.1 true)) else (if bt611.1 = true then (dropperlaw08_IceStates.j1 kj3 l0 l1 bt611.1 (!t608)) else (dropperlaw08_IceStates.j1 kj3 l0 l1 bt611.1 false))) else (dropperlaw08_IceStates.j1 kj3 l0 l1 bt611.1 true)) else (dropperlaw08_IceStates.j1 kj3 l0 l1 bt611.1 true)) else (dropperlaw08_IceStates.j1 kj3 l0 l1 bt611.1 true)))) = some r := H
      have A17 := Aside0.mk A170
      clear A170
      replace H := Option.bind_eq_some_iff.mp H
      obtain ⟨t610, A180, H⟩ := H
      replace H : ((ice_For.f kj3 l0 l1 t610).bind fun bt611 => (if t607 = 0 then (if t609 = 0 then (if bt611.2 = 0 then (if t608 = true then (if t606 = true then (if bt611.1 = true then (dropperlaw08_IceStates.j1 kj3 l0 l1 bt611.1 (!t608)) else (dropperlaw08_IceStates.j1 kj3 l0 l1 bt611.1 false)) else (dropperlaw08_IceStates.j1 kj3 l0 l1 bt611.1 true)) else (if bt611.1 = true then (dropperlaw08_IceStates.j1 kj3 l0 l1 bt611.1 (!t608)) else (dropperlaw08_IceStates.j1 kj3 l0 l1 bt611.1 false))) else (dropperlaw08_IceStates.j1 kj3 l0 l1 bt611.1 true)) else (dropperlaw08_IceStates.j1 kj3 l0 l1 bt611.1 true)) else (dropperlaw08_IceStates.j1 kj3 l0 l1 bt611.1 true))) = some r := H
      have A18 := Aside0.mk A180
      clear A180
      replace H := Option.bind_eq_some_iff.mp H
      obtain ⟨⟨t611, t612⟩, A190, H⟩ := H
      replace H : (if t607 = 0 then (if t609 = 0 then (if t612 = 0 then (if t608 = true then (if t606 = true then (if t611 = true then (dropperlaw08_IceStates.j1 kj3 l0 l1 t611 (!t608)) else (dropperlaw08_IceStates.j1 kj3 l0 l1 t611 false)) else (dropperlaw08_IceStates.j1 kj3 l0 l1 t611 true)) else (if t611 = true then (dropperlaw08_IceStates.j1 kj3 l0 l1 t611 (!t608)) else (dropperlaw08_IceStates.j1 kj3 l0 l1 t611 false))) else (dropperlaw08_IceStates.j1 kj3 l0 l1 t611 true)) else (dropperlaw08_IceStates.j1 kj3 l0 l1 t611 true)) else (dropperlaw08_IceStates.j1 kj3 l0 l1 t611 true)) = some r := H
      have A19 := Aside0.mk A190
      clear A190
      have HC20 := Aside0.mk H
      clear H
      have hcz21_0 : wc.cell? ⟨gb601, 0, none⟩ = some (.int .u16 a2_0) := (blk_cell BK601.out 0).trans rfl
      have hcz21_1 : wc.cell? ⟨gb601, 1, none⟩ = some (.int .u16 a2_1) := (blk_cell BK601.out 1).trans rfl
      have hfz21_0 := blk_frozen BK601.out 0
      have hfz21_1 := blk_frozen BK601.out 1
      go_upto_region 7 with (first | (go_at_call 39; (with_reducible refine (ice_For.calls kj3 _ _ l0 _ _ l1 (wrap64 (ji14)) t606 t607 _ ?side1 ?side2 ?side3 ?side4 A16.out).mono ?_); (case side1 => repeat (first | exact (Kd.C_below HR0.out HB.out) | (with_reducible refine Kd.C_alloc ?_ _) | (with_reducible refine Kd.C_drewN ?_ _) | (with_reducible refine Kd.C_drew ?_))); (case side2 => exact HC0.out); (case side3 => repeat (first | exact (Kd.C_below HR1.out HB.out) | (with_reducible refine Kd.C_alloc ?_ _) | (with_reducible refine Kd.C_drewN ?_ _) | (with_reducible refine Kd.C_drew ?_))); (case side4 => exact HC1.out); rintro e w22 ⟨rfl, hb⟩; have n0_ := Aside0.mk (bkB BK601 hb); have n1_ := Aside0.mk (below_step (by repeat (first | (with_reducible first | exact HB.out | apply below_alloc | apply pw_below_drewN | apply below_drew1 | refine below_set ?_ GE601.out) | exact HB.out)) hb); clear BK601; clear HB; have BK601 := n0_; have HB := n1_; clear n0_ n1_; (try clear hb); (try clear hb2); (try clear hk); (try clear hi)) | (go_at_call 39; (with_reducible refine (ice_For.calls kj3 _ _ l0 _ _ l1 (wrap64 (ji15)) t608 t609 _ ?side1 ?side2 ?side3 ?side4 A17.out).mono ?_); (case side1 => repeat (first | exact (Kd.C_below HR0.out HB.out) | (with_reducible refine Kd.C_alloc ?_ _) | (with_reducible refine Kd.C_drewN ?_ _) | (with_reducible refine Kd.C_drew ?_))); (case side2 => exact HC0.out); (case side3 => repeat (first | exact (Kd.C_below HR1.out HB.out) | (with_reducible refine Kd.C_alloc ?_ _) | (with_reducible refine Kd.C_drewN ?_ _) | (with_reducible refine Kd.C_drew ?_))); (case side4 => exact HC1.out); rintro e w23 ⟨rfl, hb⟩; have n0_ := Aside0.mk (bkB BK601 hb); have n1_ := Aside0.mk (below_step (by repeat (first | (with_reducible first | exact HB.out | apply below_alloc | apply pw_below_drewN | apply below_drew1 | refine below_set ?_ GE601.out) | exact HB.out)) hb); clear BK601; clear HB; have BK601 := n0_; have HB := n1_; clear n0_ n1_; (try clear hb); (try clear hb2); (try clear hk); (try clear hi)) | (go_at_call 42; (with_reducible refine (dropperref08_Count.calls kj3 _ _ l0 t610 _ ?side1 ?side2 A18.out).mono ?_); (case side1 => repeat (first | exact (Kd.C_below HR0.out HB.out) | (with_reducible refine Kd.C_alloc ?_ _) | (with_reducible refine Kd.C_drewN ?_ _) | (with_reducible refine Kd.C_drew ?_))); (case side2 => exact HC0.out); rintro e w' ⟨rfl, ⟨nd, rfl⟩⟩; (try first | exact ⟨rfl, _, World.drewN_drewN _ _ _⟩ | exact ⟨rfl, _, Eq.trans (World.drewN_drewN _ _ _) (congrArg (World.drewN _) (Nat.add_assoc _ _ _))⟩)) | (go_at_call 39; (with_reducible refine (ice_For.calls kj3 _ _ l0 _ _ l1 t610 t611 t612 _ ?side1 ?side2 ?side3 ?side4 A19.out).mono ?_); (case side1 => repeat (first | exact (Kd.C_below HR0.out (by repeat (first | (with_reducible first | exact HB.out | apply below_alloc | apply pw_below_drewN | apply below_drew1 | refine below_set ?_ GE601.out) | exact HB.out))) | (with_reducible refine Kd.C_alloc ?_ _) | (with_reducible refine Kd.C_drewN ?_ _) | (with_reducible refine Kd.C_drew ?_))); (case side2 => exact HC0.out); (case side3 => repeat (first | exact (Kd.C_below HR1.out (by repeat (first | (with_reducible first | exact HB.out | apply below_alloc | apply pw_below_drewN | apply below_drew1 | refine below_set ?_ GE601.out) | exact HB.out))) | (with_reducible refine Kd.C_alloc ?_ _) | (with_reducible refine Kd.C_drewN ?_ _) | (with_reducible refine Kd.C_drew ?_))); (case side4 => exact HC1.out); rintro e w24 ⟨rfl, hb⟩; have n0_ := Aside0.mk (bkB BK601 hb); have n1_ := Aside0.mk (below_step (by repeat (first | (with_reducible first | exact HB.out | apply below_alloc | apply pw_below_drewN | apply below_drew1 | refine below_set ?_ GE601.out) | exact HB.out)) hb); clear BK601; clear HB; have BK601 := n0_; have HB := n1_; clear n0_ n1_; (try clear hb); (try clear hb2); (try clear hk); (try clear hi)))
      repeat (go_quiet (first | (go_at_call 39; (with_reducible refine (ice_For.calls kj3 _ _ l0 _ _ l1 (wrap64 (ji14)) t606 t607 _ ?side1 ?side2 ?side3 ?side4 A16.out).mono ?_); (case side1 => repeat (first | exact (Kd.C_below HR0.out HB.out) | (with_reducible refine Kd.C_alloc ?_ _) | (with_reducible refine Kd.C_drewN ?_ _) | (with_reducible refine Kd.C_drew ?_))); (case side2 => exact HC0.out); (case side3 => repeat (first | exact (Kd.C_below HR1.out HB.out) | (with_reducible refine Kd.C_alloc ?_ _) | (with_reducible refine Kd.C_drewN ?_ _) | (with_reducible refine Kd.C_drew ?_))); (case side4 => exact HC1.out); rintro e w22 ⟨rfl, hb⟩; have n0_ := Aside0.mk (bkB BK601 hb); have n1_ := Aside0.mk (below_step (by repeat (first | (with_reducible first | exact HB.out | apply below_alloc | apply pw_below_drewN | apply below_drew1 | refine below_set ?_ GE601.out) | exact HB.out)) hb); clear BK601; clear HB; have BK601 := n0_; have HB := n1_; clear n0_ n1_; (try clear hb); (try clear hb2); (try clear hk); (try clear hi)) | (go_at_call 39; (with_reducible refine (ice_For.calls kj3 _ _ l0 _ _ l1 (wrap64 (ji15)) t608 t609 _ ?side1 ?side2 ?side3 ?side4 A17.out).mono ?_); (case side1 => repeat (first | exact (Kd.C_below HR0.out HB.out) | (with_reducible refine Kd.C_alloc ?_ _) | (with_reducible refine Kd.C_drewN ?_ _) | (with_reducible refine Kd.C_drew ?_))); (case side2 => exact HC0.out); (case side3 => repeat (first | exact (Kd.C_below HR1.out HB.out) | (with_reducible refine Kd.C_alloc ?_ _) | (with_reducible refine Kd.C_drewN ?_ _) | (with_reducible refine Kd.C_drew ?_))); (case side4 => exact HC1.out); rintro e w23 ⟨rfl, hb⟩; have n0_ := Aside0.mk (bkB BK601 hb); have n1_ := Aside0.mk (below_step (by repeat (first | (with_reducible first | exact HB.out | apply below_alloc | apply pw_below_drewN | apply below_drew1 | refine below_set ?_ GE601.out) | exact HB.out)) hb); clear BK601; clear HB; have BK601 := n0_; have HB := n1_; clear n0_ n1_; (try clear hb); (try clear hb2); (try clear hk); (try clear hi)) | (go_at_call 42; (with_reducible refine (dropperref08_Count.calls kj3 _ _ l0 t610 _ ?side1 ?side2 A18.out).mono ?_); (case side1 => repeat (first | exact (Kd.C_below HR0.out HB.out) | (with_reducible refine Kd.C_alloc ?_ _) | (with_reducible refine Kd.C_drewN ?_ _) | (with_reducible refine Kd.C_drew ?_))); (case side2 => exact HC0.out); rintro e w' ⟨rfl, ⟨nd, rfl⟩⟩; (try first | exact ⟨rfl, _, World.drewN_drewN _ _ _⟩ | exact ⟨rfl, _, Eq.trans (World.drewN_drewN _ _ _) (congrArg (World.drewN _) (Nat.add_assoc _ _ _))⟩)) | (go_at_call 39; (with_reducible refine (ice_For.calls kj3 _ _ l0 _ _ l1 t610 t611 t612 _ ?side1 ?side2 ?side3 ?side4 A19.out).mono ?_); (case side1 => repeat (first | exact (Kd.C_below HR0.out (by repeat (first | (with_reducible first | exact HB.out | apply below_alloc | apply pw_below_drewN | apply below_drew1 | refine below_set ?_ GE601.out) | exact HB.out))) | (with_reducible refine Kd.C_alloc ?_ _) | (with_reducible refine Kd.C_drewN ?_ _) | (with_reducible refine Kd.C_drew ?_))); (case side2 => exact HC0.out); (case side3 => repeat (first | exact (Kd.C_below HR1.out (by repeat (first | (with_reducible first | exact HB.out | apply below_alloc | apply pw_below_drewN | apply below_drew1 | refine below_set ?_ GE601.out) | exact HB.out))) | (with_reducible refine Kd.C_alloc ?_ _) | (with_reducible refine Kd.C_drewN ?_ _) | (with_reducible refine Kd.C_drew ?_))); (case side4 => exact HC1.out); rintro e w24 ⟨rfl, hb⟩; have n0_ := Aside0.mk (bkB BK601 hb); have n1_ := Aside0.mk (below_step (by repeat (first | (with_reducible first | exact HB.out | apply below_alloc | apply pw_below_drewN | apply below_drew1 | refine below_set ?_ GE601.out) | exact HB.out)) hb); clear BK601; clear HB; have BK601 := n0_; have HB := n1_; clear n0_ n1_; (try clear hb); (try clear hb2); (try clear hk); (try clear hi))); go_upto_region 7 with (first | (go_at_call 39; (with_reducible refine (ice_For.calls kj3 _ _ l0 _ _ l1 (wrap64 (ji14)) t606 t607 _ ?side1 ?side2 ?side3 ?side4 A16.out).mono ?_); (case side1 => repeat (first | exact (Kd.C_below HR0.out HB.out) | (with_reducible refine Kd.C_alloc ?_ _) | (with_reducible refine Kd.C_drewN ?_ _) | (with_reducible refine Kd.C_drew ?_))); (case side2 => exact HC0.out); (case side3 => repeat (first | exact (Kd.C_below HR1.out HB.out) | (with_reducible refine Kd.C_alloc ?_ _) | (with_reducible refine Kd.C_drewN ?_ _) | (with_reducible refine Kd.C_drew ?_))); (case side4 => exact HC1.out); rintro e w22 ⟨rfl, hb⟩; have n0_ := Aside0.mk (bkB BK601 hb); have n1_ := Aside0.mk (below_step (by repeat (first | (with_reducible first | exact HB.out | apply below_alloc | apply pw_below_drewN | apply below_drew1 | refine below_set ?_ GE601.out) | exact HB.out)) hb); clear BK601; clear HB; have BK601 := n0_; have HB := n1_; clear n0_ n1_; (try clear hb); (try clear hb2); (try clear hk); (try clear hi)) | (go_at_call 39; (with_reducible refine (ice_For.calls kj3 _ _ l0 _ _ l1 (wrap64 (ji15)) t608 t609 _ ?side1 ?side2 ?side3 ?side4 A17.out).mono ?_); (case side1 => repeat (first | exact (Kd.C_below HR0.out HB.out) | (with_reducible refine Kd.C_alloc ?_ _) | (with_reducible refine Kd.C_drewN ?_ _) | (with_reducible refine Kd.C_drew ?_))); (case side2 => exact HC0.out); (case side3 => repeat (first | exact (Kd.C_below HR1.out HB.out) | (with_reducible refine Kd.C_alloc ?_ _) | (with_reducible refine Kd.C_drewN ?_ _) | (with_reducible refine Kd.C_drew ?_))); (case side4 => exact HC1.out); rintro e w23 ⟨rfl, hb⟩; have n0_ := Aside0.mk (bkB BK601 hb); have n1_ := Aside0.mk (below_step (by repeat (first | (with_reducible first | exact HB.out | apply below_alloc | apply pw_below_drewN | apply below_drew1 | refine below_set ?_ GE601.out) | exact HB.out)) hb); clear BK601; clear HB; have BK601 := n0_; have HB := n1_; clear n0_ n1_; (try clear hb); (try clear hb2); (try clear hk); (try clear hi)) | (go_at_call 42; (with_reducible refine (dropperref08_Count.calls kj3 _ _ l0 t610 _ ?side1 ?side2 A18.out).mono ?_); (case side1 => repeat (first | exact (Kd.C_below HR0.out HB.out) | (with_reducible refine Kd.C_alloc ?_ _) | (with_reducible refine Kd.C_drewN ?_ _) | (with_reducible refine Kd.C_drew ?_))); (case side2 => exact HC0.out); rintro e w' ⟨rfl, ⟨nd, rfl⟩⟩; (try first | exact ⟨rfl, _, World.drewN_drewN _ _ _⟩ | exact ⟨rfl, _, Eq.trans (World.drewN_drewN _ _ _) (congrArg (World.drewN _) (Nat.add_assoc _ _ _))⟩)) | (go_at_call 39; (with_reducible refine (ice_For.calls kj3 _ _ l0 _ _ l1 t610 t611 t612 _ ?side1 ?side2 ?side3 ?side4 A19.out).mono ?_); (case side1 => repeat (first | exact (Kd.C_below HR0.out (by repeat (first | (with_reducible first | exact HB.out | apply below_alloc | apply pw_below_drewN | apply below_drew1 | refine below_set ?_ GE601.out) | exact HB.out))) | (with_reducible refine Kd.C_alloc ?_ _) | (with_reducible refine Kd.C_drewN ?_ _) | (with_reducible refine Kd.C_drew ?_))); (case side2 => exact HC0.out); (case side3 => repeat (first | exact (Kd.C_below HR1.out (by repeat (first | (with_reducible first | exact HB.out | apply below_alloc | apply pw_below_drewN | apply below_drew1 | refine below_set ?_ GE601.out) | exact HB.out))) | (with_reducible refine Kd.C_alloc ?_ _) | (with_reducible refine Kd.C_drewN ?_ _) | (with_reducible refine Kd.C_drew ?_))); (case side4 => exact HC1.out); rintro e w24 ⟨rfl, hb⟩; have n0_ := Aside0.mk (bkB BK601 hb); have n1_ := Aside0.mk (below_step (by repeat (first | (with_reducible first | exact HB.out | apply below_alloc | apply pw_below_drewN | apply below_drew1 | refine below_set ?_ GE601.out) | exact HB.out)) hb); clear BK601; clear HB; have BK601 := n0_; have HB := n1_; clear n0_ n1_; (try clear hb); (try clear hb2); (try clear hk); (try clear hi))))
      (try simp only [Act.put, List.setIfInBounds_toArray, List.set_cons_zero, List.set_cons_succ])
      go_cut [93] (fun v93 wc => ∃ (kq : Nat) (x93_19 : Bool), v93 = .bool x93_19 ∧ Aside0 (dropperlaw08_IceStates.j1 kq l0 l1 t611 x93_19 = some r) ∧ Aside0 (kq ≤ kj3) ∧ Aside0 (wc.heap[gb601]? = some (.cells #[.int .u16 a2_0, .int .u16 a2_1] 46 (0, 0))) ∧ Aside0 (Below w.heap.size w wc))
      case first =>
        have H := HC20.out
        clear HC20
        by_cases c25 : t607 = 0
        rotate_left
        · rw [if_neg c25] at H
          have c25b0 : (t607 == 0) = false := beq_eq_false_iff_ne.mpr c25
          have c25b1 : (t607 != 0) = true := bne_iff_ne.mpr c25
          (first | rw [c25b0] | (simp only [i64_w, i32_w]; rw [c25b0]) | skip)
          exact absurd (H.trans (congrArg some hT)) (dropperlaw08_IceStates.j1_no _ _ _ _)
        rw [if_pos c25] at H
        have c25b0 : (t607 == 0) = true := beq_iff_eq.mpr c25
        have c25b1 : (t607 != 0) = false := bne_eq_false_iff_eq.mpr c25
        clear c25
        (first | rw [c25b0] | (simp only [i64_w, i32_w]; rw [c25b0]) | skip)
        by_cases c26 : t609 = 0
        rotate_left
        · rw [if_neg c26] at H
          have c26b0 : (t609 == 0) = false := beq_eq_false_iff_ne.mpr c26
          have c26b1 : (t609 != 0) = true := bne_iff_ne.mpr c26
          exact absurd (H.trans (congrArg some hT)) (dropperlaw08_IceStates.j1_no _ _ _ _)
        rw [if_pos c26] at H
        have c26b0 : (t609 == 0) = true := beq_iff_eq.mpr c26
        have c26b1 : (t609 != 0) = false := bne_eq_false_iff_eq.mpr c26
        clear c26
        by_cases c27 : t612 = 0
        rotate_left
        · rw [if_neg c27] at H
          have c27b0 : (t612 == 0) = false := beq_eq_false_iff_ne.mpr c27
          have c27b1 : (t612 != 0) = true := bne_iff_ne.mpr c27
          exact absurd (H.trans (congrArg some hT)) (dropperlaw08_IceStates.j1_no _ _ _ _)
        rw [if_pos c27] at H
        have c27b0 : (t612 == 0) = true := beq_iff_eq.mpr c27
        have c27b1 : (t612 != 0) = false := bne_eq_false_iff_eq.mpr c27
        clear c27
        by_cases c28 : t608 = true
        rotate_left
        · replace c28 := Bool.eq_false_iff.mpr c28
          subst c28
          have H1 : (if t611 = true then (dropperlaw08_IceStates.j1 kj3 l0 l1 t611 (!false)) else (dropperlaw08_IceStates.j1 kj3 l0 l1 t611 false)) = some r := by rw [if_neg (show ¬ (false = true) by decide)] at H; exact H
          clear H
          have H := H1
          clear H1
          by_cases c31 : t611 = true
          · subst c31
            have H1 : (dropperlaw08_IceStates.j1 kj3 l0 l1 true (!false)) = some r := by rw [if_pos rfl] at H; exact H
            clear H
            have H := H1
            clear H1
            have H' := Aside0.mk H
            clear H
            go_wp2
            repeat (go_quiet (fail); try go_wp2)
            go_meet
            case rel => exact ⟨_, (!false), (by first | rfl | (simp; done) | (simp [*]; done)), H', ⟨by have := HJ3.out; first | omega | exact Nat.le_refl _⟩, ⟨bkU BK601⟩, ⟨by repeat (first | (with_reducible first | exact HB.out | apply below_alloc | apply pw_below_drewN | apply below_drew1 | refine below_set ?_ GE601.out) | exact HB.out)⟩⟩
          replace c31 := Bool.eq_false_iff.mpr c31
          subst c31
          have H1 : (dropperlaw08_IceStates.j1 kj3 l0 l1 false false) = some r := by rw [if_neg (show ¬ (false = true) by decide)] at H; exact H
          clear H
          have H := H1
          clear H1
          have H' := Aside0.mk H
          clear H
          go_wp2
          repeat (go_quiet (fail); try go_wp2)
          go_meet
          case rel => exact ⟨_, (false), (by first | rfl | (simp; done) | (simp [*]; done)), H', ⟨by have := HJ3.out; first | omega | exact Nat.le_refl _⟩, ⟨bkU BK601⟩, ⟨by repeat (first | (with_reducible first | exact HB.out | apply below_alloc | apply pw_below_drewN | apply below_drew1 | refine below_set ?_ GE601.out) | exact HB.out)⟩⟩
        subst c28
        have H1 : (if t606 = true then (if t611 = true then (dropperlaw08_IceStates.j1 kj3 l0 l1 t611 (!true)) else (dropperlaw08_IceStates.j1 kj3 l0 l1 t611 false)) else (dropperlaw08_IceStates.j1 kj3 l0 l1 t611 true)) = some r := by rw [if_pos rfl] at H; exact H
        clear H
        have H := H1
        clear H1
        by_cases c29 : t606 = true
        rotate_left
        · replace c29 := Bool.eq_false_iff.mpr c29
          subst c29
          have H1 : (dropperlaw08_IceStates.j1 kj3 l0 l1 t611 true) = some r := by rw [if_neg (show ¬ (false = true) by decide)] at H; exact H
          clear H
          have H := H1
          clear H1
          exact absurd (H.trans (congrArg some hT)) (dropperlaw08_IceStates.j1_no _ _ _ _)
        subst c29
        have H1 : (if t611 = true then (dropperlaw08_IceStates.j1 kj3 l0 l1 t611 (!true)) else (dropperlaw08_IceStates.j1 kj3 l0 l1 t611 false)) = some r := by rw [if_pos rfl] at H; exact H
        clear H
        have H := H1
        clear H1
        by_cases c30 : t611 = true
        · subst c30
          have H1 : (dropperlaw08_IceStates.j1 kj3 l0 l1 true (!true)) = some r := by rw [if_pos rfl] at H; exact H
          clear H
          have H := H1
          clear H1
          have H' := Aside0.mk H
          clear H
          go_wp2
          repeat (go_quiet (fail); try go_wp2)
          go_meet
          case rel => exact ⟨_, (!true), (by first | rfl | (simp; done) | (simp [*]; done)), H', ⟨by have := HJ3.out; first | omega | exact Nat.le_refl _⟩, ⟨bkU BK601⟩, ⟨by repeat (first | (with_reducible first | exact HB.out | apply below_alloc | apply pw_below_drewN | apply below_drew1 | refine below_set ?_ GE601.out) | exact HB.out)⟩⟩
        replace c30 := Bool.eq_false_iff.mpr c30
        subst c30
        have H1 : (dropperlaw08_IceStates.j1 kj3 l0 l1 false false) = some r := by rw [if_neg (show ¬ (false = true) by decide)] at H; exact H
        clear H
        have H := H1
        clear H1
        have H' := Aside0.mk H
        clear H
        go_wp2
        repeat (go_quiet (fail); try go_wp2)
        go_meet
        case rel => exact ⟨_, (false), (by first | rfl | (simp; done) | (simp [*]; done)), H', ⟨by have := HJ3.out; first | omega | exact Nat.le_refl _⟩, ⟨bkU BK601⟩, ⟨by repeat (first | (with_reducible first | exact HB.out | apply below_alloc | apply pw_below_drewN | apply below_drew1 | refine below_set ?_ GE601.out) | exact HB.out)⟩⟩
      case rest =>
        clear HC20
        try clear c1
        try clear c2
        try clear p2
        try clear c3
        try clear p6
        try clear c7
        try clear c8
        try clear c9
        try clear c11
        try clear c25
        try clear c25b0
        try clear c25b1
        try clear c26
        try clear c26b0
        try clear c26b1
        try clear c27
        try clear c27b0
        try clear c27b1
        try clear c28
        try clear c29
        try clear c30
        try clear c31
        try clear hcz21_0
        try clear hcz21_1
        try clear hfz21_0
        try clear hfz21_1
        try clear p2
        obtain ⟨kq, x93_19, rfl, HA, HJ19, BK601, HB⟩ := hcut
        cases kq with
        | zero => exact absurd HA.out (by simp [dropperlaw08_IceStates.j1])
        | succ kj19 =>
          have H := HA.out
          clear HA
          simp only [dropperlaw08_IceStates.j1] at H
          by_cases c32 : x93_19 = true
          · subst c32
            have H1 : (some false) = some r := by rw [if_pos rfl] at H; exact H
            clear H
            have H := H1
            clear H1
            exact absurd (hT.symm.trans (Option.some.inj H).symm) (by decide)
          replace c32 := Bool.eq_false_iff.mpr c32
          subst c32
          have H1 : ((ice_Choices.f kj19 l0 l1).bind fun bt613 => (if bt613.2 = 0 then (dropperlaw08_IceStates.l0 kj19 l0 l1 t611 bt613.1 false 0) else (some false))) = some r := by rw [if_neg (show ¬ (false = true) by decide)] at H; exact H
          clear H
          have H := H1
          clear H1
          replace H := Option.bind_eq_some_iff.mp H
          obtain ⟨⟨t613, t614⟩, A330, H⟩ := H
          replace H : (if t614 = 0 then (dropperlaw08_IceStates.l0 kj19 l0 l1 t611 t613 false 0) else (some false)) = some r := H
          have A33 := Aside0.mk A330
          clear A330
          by_cases c34 : t614 = 0
          rotate_left
          · rw [if_neg c34] at H
            have c34b0 : (t614 == 0) = false := beq_eq_false_iff_ne.mpr c34
            have c34b1 : (t614 != 0) = true := bne_iff_ne.mpr c34
            exact absurd (hT.symm.trans (Option.some.inj H).symm) (by decide)

          rw [if_pos c34] at H
          have c34b0 : (t614 == 0) = true := beq_iff_eq.mpr c34
          have c34b1 : (t614 != 0) = false := bne_eq_false_iff_eq.mpr c34
          clear c34
          have H' := Aside0.mk H
          clear H
          go_wp2_with (first | (go_at_call 37; (with_reducible refine (ice_Choices.calls kj19 _ _ l0 _ _ l1 t613 t614 _ ?side1 ?side2 ?side3 ?side4 A33.out).mono ?_); (case side1 => repeat (first | exact (Kd.C_below HR0.out HB.out) | (with_reducible refine Kd.C_alloc ?_ _) | (with_reducible refine Kd.C_drewN ?_ _) | (with_reducible refine Kd.C_drew ?_))); (case side2 => exact HC0.out); (case side3 => repeat (first | exact (Kd.C_below HR1.out HB.out) | (with_reducible refine Kd.C_alloc ?_ _) | (with_reducible refine Kd.C_drewN ?_ _) | (with_reducible refine Kd.C_drew ?_))); (case side4 => exact HC1.out); rintro e w35 ⟨v615, rfl, ho0, hb⟩; have n0_ := Aside0.mk (Kd.R_lower ho0 (below_size (by repeat (first | (with_reducible first | exact HB.out | apply below_alloc | apply pw_below_drewN | apply below_drew1 | refine below_set ?_ GE601.out) | exact HB.out)))); have n1_ := Aside0.mk (bkB BK601 hb); have n2_ := Aside0.mk (below_step (by repeat (first | (with_reducible first | exact HB.out | apply below_alloc | apply pw_below_drewN | apply below_drew1 | refine below_set ?_ GE601.out) | exact HB.out)) hb); clear BK601; clear HB; have HO616 := n0_; have BK601 := n1_; have HB := n2_; clear n0_ n1_ n2_; (try clear hb); (try clear hb2); (try clear hk); (try clear hi); (try clear ho0)))
          repeat (go_quiet (first | (go_at_call 37; (with_reducible refine (ice_Choices.calls kj19 _ _ l0 _ _ l1 t613 t614 _ ?side1 ?side2 ?side3 ?side4 A33.out).mono ?_); (case side1 => repeat (first | exact (Kd.C_below HR0.out HB.out) | (with_reducible refine Kd.C_alloc ?_ _) | (with_reducible refine Kd.C_drewN ?_ _) | (with_reducible refine Kd.C_drew ?_))); (case side2 => exact HC0.out); (case side3 => repeat (first | exact (Kd.C_below HR1.out HB.out) | (with_reducible refine Kd.C_alloc ?_ _) | (with_reducible refine Kd.C_drewN ?_ _) | (with_reducible refine Kd.C_drew ?_))); (case side4 => exact HC1.out); rintro e w35 ⟨v615, rfl, ho0, hb⟩; have n0_ := Aside0.mk (Kd.R_lower ho0 (below_size (by repeat (first | (with_reducible first | exact HB.out | apply below_alloc | apply pw_below_drewN | apply below_drew1 | refine below_set ?_ GE601.out) | exact HB.out)))); have n1_ := Aside0.mk (bkB BK601 hb); have n2_ := Aside0.mk (below_step (by repeat (first | (with_reducible first | exact HB.out | apply below_alloc | apply pw_below_drewN | apply below_drew1 | refine below_set ?_ GE601.out) | exact HB.out)) hb); clear BK601; clear HB; have HO616 := n0_; have BK601 := n1_; have HB := n2_; clear n0_ n1_ n2_; (try clear hb); (try clear hb2); (try clear hk); (try clear hi); (try clear ho0))); try go_wp2_with (first | (go_at_call 37; (with_reducible refine (ice_Choices.calls kj19 _ _ l0 _ _ l1 t613 t614 _ ?side1 ?side2 ?side3 ?side4 A33.out).mono ?_); (case side1 => repeat (first | exact (Kd.C_below HR0.out HB.out) | (with_reducible refine Kd.C_alloc ?_ _) | (with_reducible refine Kd.C_drewN ?_ _) | (with_reducible refine Kd.C_drew ?_))); (case side2 => exact HC0.out); (case side3 => repeat (first | exact (Kd.C_below HR1.out HB.out) | (with_reducible refine Kd.C_alloc ?_ _) | (with_reducible refine Kd.C_drewN ?_ _) | (with_reducible refine Kd.C_drew ?_))); (case side4 => exact HC1.out); rintro e w35 ⟨v615, rfl, ho0, hb⟩; have n0_ := Aside0.mk (Kd.R_lower ho0 (below_size (by repeat (first | (with_reducible first | exact HB.out | apply below_alloc | apply pw_below_drewN | apply below_drew1 | refine below_set ?_ GE601.out) | exact HB.out)))); have n1_ := Aside0.mk (bkB BK601 hb); have n2_ := Aside0.mk (below_step (by repeat (first | (with_reducible first | exact HB.out | apply below_alloc | apply pw_below_drewN | apply below_drew1 | refine below_set ?_ GE601.out) | exact HB.out)) hb); clear BK601; clear HB; have HO616 := n0_; have BK601 := n1_; have HB := n2_; clear n0_ n1_ n2_; (try clear hb); (try clear hb2); (try clear hk); (try clear hi); (try clear ho0))))
          go_loopg [16, 17] kj19 (fun kq v16 v17 w' => ∃ (x16_3 : Bool) (x17_3 : Int), v16 = .bool x16_3 ∧ v17 = .int .i64 x17_3 ∧ Aside0 (dropperlaw08_IceStates.l0 kq l0 l1 t611 t613 x16_3 x17_3 = some r) ∧ Aside0 (kq ≤ kj19) ∧ Aside0 (Kd.R (Kd.int .i64) 3 w' w.heap.size (fun _ => True) v615 t613) ∧ Aside0 (w'.heap[gb601]? = some (.cells #[.int .u16 a2_0, .int .u16 a2_1] 46 (0, 0))) ∧ Aside0 (Below w.heap.size w w'))
          case atStart => exact ⟨(false), (0), (by first | rfl | (simp; done) | (simp [*]; done)), (by first | rfl | (simp; done) | (simp [*]; done)), H', ⟨Nat.le_refl _⟩, ⟨by (with_reducible repeat (first | apply Kd.R_alloc | apply Kd.R_drewN | apply Kd.R_drew)); exact HO616.out⟩, ⟨bkU BK601⟩, ⟨by repeat (first | (with_reducible first | exact HB.out | apply below_alloc | apply pw_below_drewN | apply below_drew1 | refine below_set ?_ GE601.out) | exact HB.out)⟩⟩
          case round =>
            clear H'
            try clear c1
            try clear c2
            try clear p2
            try clear c3
            try clear p6
            try clear c7
            try clear c8
            try clear c9
            try clear c11
            try clear c25
            try clear c25b0
            try clear c25b1
            try clear c26
            try clear c26b0
            try clear c26b1
            try clear c27
            try clear c27b0
            try clear c27b1
            try clear c28
            try clear c29
            try clear c30
            try clear c31
            try clear c32
            try clear c34
            try clear c34b0
            try clear c34b1
            try clear hcz21_0
            try clear hcz21_1
            try clear hfz21_0
            try clear hfz21_1
            try clear p2
            try clear p6
            obtain ⟨x16_3, x17_3, rfl, rfl, HA, HK3, HO_15, BK601, HB⟩ := hrel
            cases gk with
            | zero => exact absurd HA.out (by simp [dropperlaw08_IceStates.l0])
            | succ k3 =>
              have H := HA.out
              clear HA
              simp only [dropperlaw08_IceStates.l0] at H
              by_cases c36 : x17_3 < (t613.length : Int)
              rotate_left
              · rw [if_neg c36] at H
                have c36b0 : decide (x17_3 < (t613.length : Int)) = false := decide_eq_false c36
                clear c36
                by_cases c52 : (x16_3 == t611) = true
                rotate_left
                · rw [if_neg c52] at H
                  have c52b0 : (x16_3 == t611) = false := by simpa using c52
                  (try (have c52b1 : decide (x16_3 = t611) = false := by simpa using c52))
                  (try (have c52b2 : (x16_3 == t611) = false := by simpa using c52))
                  (try (have c52b3 : ¬ (x16_3 = t611) := by simpa using c52))
                  clear c52
                  exact absurd (hT.symm.trans (Option.some.inj H).symm) (by decide)
                rw [if_pos c52] at H
                have c52b0 : (x16_3 == t611) = true := c52
                (try (have c52b1 : decide (x16_3 = t611) = true := by simpa using c52))
                (try (have c52b2 : (x16_3 == t611) = true := by simpa using c52))
                clear c52
                replace H := Option.bind_eq_some_iff.mp H
                obtain ⟨t617, A530, H⟩ := H
                replace H : (some t617) = some r := H
                have A53 := Aside0.mk A530
                clear A530
                clear hT
                obtain rfl := Option.some.inj H
                obtain ⟨Ao54, co54, eo54⟩ := Kd.R_slice HO_15.out
                subst eo54
                go_wp2_with (first | (go_at_call 12; (with_reducible refine (dropperlaw08_Awake.calls k3  t617 _ A53.out).mono ?_); rintro e w55 ⟨rfl, hb⟩; have n0_ := Aside0.mk (Kd.R_below (by (with_reducible repeat (first | apply Kd.R_alloc | apply Kd.R_drewN | apply Kd.R_drew)); exact HO_15.out) hb); have n1_ := Aside0.mk (bkB BK601 hb); have n2_ := Aside0.mk (below_step (by repeat (first | (with_reducible first | exact HB.out | apply below_alloc | apply pw_below_drewN | apply below_drew1 | refine below_set ?_ GE601.out) | exact HB.out)) hb); clear HO_15; clear BK601; clear HB; have HO_15 := n0_; have BK601 := n1_; have HB := n2_; clear n0_ n1_ n2_; (try clear hb); (try clear hb2); (try clear hk); (try clear hi)))
                repeat (go_quiet (first | (go_at_call 12; (with_reducible refine (dropperlaw08_Awake.calls k3  t617 _ A53.out).mono ?_); rintro e w55 ⟨rfl, hb⟩; have n0_ := Aside0.mk (Kd.R_below (by (with_reducible repeat (first | apply Kd.R_alloc | apply Kd.R_drewN | apply Kd.R_drew)); exact HO_15.out) hb); have n1_ := Aside0.mk (bkB BK601 hb); have n2_ := Aside0.mk (below_step (by repeat (first | (with_reducible first | exact HB.out | apply below_alloc | apply pw_below_drewN | apply below_drew1 | refine below_set ?_ GE601.out) | exact HB.out)) hb); clear HO_15; clear BK601; clear HB; have HO_15 := n0_; have BK601 := n1_; have HB := n2_; clear n0_ n1_ n2_; (try clear hb); (try clear hb2); (try clear hk); (try clear hi))); try go_wp2_with (first | (go_at_call 12; (with_reducible refine (dropperlaw08_Awake.calls k3  t617 _ A53.out).mono ?_); rintro e w55 ⟨rfl, hb⟩; have n0_ := Aside0.mk (Kd.R_below (by (with_reducible repeat (first | apply Kd.R_alloc | apply Kd.R_drewN | apply Kd.R_drew)); exact HO_15.out) hb); have n1_ := Aside0.mk (bkB BK601 hb); have n2_ := Aside0.mk (below_step (by repeat (first | (with_reducible first | exact HB.out | apply below_alloc | apply pw_below_drewN | apply below_drew1 | refine below_set ?_ GE601.out) | exact HB.out)) hb); clear HO_15; clear BK601; clear HB; have HO_15 := n0_; have BK601 := n1_; have HB := n2_; clear n0_ n1_ n2_; (try clear hb); (try clear hb2); (try clear hk); (try clear hi))))
                go_ret
                exact ⟨by first | rfl | (simp [errW_none, errW_some] <;> rfl) | (simp only [← hji14, ← hji15]; first | rfl | (simp [errW_none, errW_some] <;> rfl)) | (simp [*, errW_none, errW_some] <;> rfl), by repeat (first | (with_reducible first | exact HB.out | apply below_alloc | apply pw_below_drewN | apply below_drew1 | refine below_set ?_ GE601.out) | exact HB.out)⟩
              rw [if_pos c36] at H
              have c36b0 : decide (x17_3 < (t613.length : Int)) = true := decide_eq_true c36
              clear c36
              by_cases c37 : 0 ≤ x17_3
              rotate_left
              · rw [if_neg c37] at H
                exact absurd H (by simp)
              rw [if_pos c37] at H
              have c37b0 : decide (0 ≤ x17_3) = true := decide_eq_true c37
              clear c37
              replace H := Option.bind_eq_some_iff.mp H
              obtain ⟨⟨t619, t620⟩, A380, H⟩ := H
              replace H : ((dropperref08_Count.f k3 l0).bind fun t623 => ((ice_For.f k3 l0 t619 t623).bind fun bt624 => (if t620 = 0 then (if bt624.2 = 0 then (if x16_3 = true then (dropperlaw08_IceStates.l0 k3 l0 l1 t611 t613 true (wrap64 (x17_3 + 1))) else (dropperlaw08_IceStates.l0 k3 l0 l1 t611 t613 bt624.1 (wrap64 (x17_3 + 1)))) else (some false)) else (some false)))) = some r := H
              have A38 := Aside0.mk A380
              clear A380
              replace H := Option.bind_eq_some_iff.mp H
              obtain ⟨t623, A390, H⟩ := H
              replace H : ((ice_For.f k3 l0 t619 t623).bind fun bt624 => (if t620 = 0 then (if bt624.2 = 0 then (if x16_3 = true then (dropperlaw08_IceStates.l0 k3 l0 l1 t611 t613 true (wrap64 (x17_3 + 1))) else (dropperlaw08_IceStates.l0 k3 l0 l1 t611 t613 bt624.1 (wrap64 (x17_3 + 1)))) else (some false)) else (some false))) = some r := H
              have A39 := Aside0.mk A390
              clear A390
              replace H := Option.bind_eq_some_iff.mp H
              obtain ⟨⟨t624, t625⟩, A400, H⟩ := H
              replace H : (if t620 = 0 then (if t625 = 0 then (if x16_3 = true then (dropperlaw08_IceStates.l0 k3 l0 l1 t611 t613 true (wrap64 (x17_3 + 1))) else (dropperlaw08_IceStates.l0 k3 l0 l1 t611 t613 t624 (wrap64 (x17_3 + 1)))) else (some false)) else (some false)) = some r := H
              have A40 := Aside0.mk A400
              clear A400
              by_cases c41 : t620 = 0
              rotate_left
              · rw [if_neg c41] at H
                have c41b0 : (t620 == 0) = false := beq_eq_false_iff_ne.mpr c41
                have c41b1 : (t620 != 0) = true := bne_iff_ne.mpr c41
                exact absurd (hT.symm.trans (Option.some.inj H).symm) (by decide)
              rw [if_pos c41] at H
              have c41b0 : (t620 == 0) = true := beq_iff_eq.mpr c41
              have c41b1 : (t620 != 0) = false := bne_eq_false_iff_eq.mpr c41
              clear c41
              by_cases c42 : t625 = 0
              rotate_left
              · rw [if_neg c42] at H
                have c42b0 : (t625 == 0) = false := beq_eq_false_iff_ne.mpr c42
                have c42b1 : (t625 != 0) = true := bne_iff_ne.mpr c42
                exact absurd (hT.symm.trans (Option.some.inj H).symm) (by decide)
              rw [if_pos c42] at H
              have c42b0 : (t625 == 0) = true := beq_iff_eq.mpr c42
              have c42b1 : (t625 != 0) = false := bne_eq_false_iff_eq.mpr c42
              clear c42
              by_cases c43 : x16_3 = true
              · subst c43
                have H1 : (dropperlaw08_IceStates.l0 k3 l0 l1 t611 t613 true (wrap64 (x17_3 + 1))) = some r := by rw [if_pos rfl] at H; exact H
                clear H
                have H := H1
                clear H1
                have H' := Aside0.mk H
                clear H
                obtain ⟨Ao44, co44, eo44⟩ := Kd.R_slice HO_15.out
                subst eo44
                have p618 : 0 ≤ (x17_3 : Int) := of_decide_eq_true (by first | (with_reducible assumption) | assumption)
                have q618 : x17_3 < (t613.length : Int) := of_decide_eq_true (by first | (with_reducible assumption) | assumption)
                obtain ⟨ad618, e618, hx618_0⟩ := Kd.at_int (Kd.R_reads' HO_15.out).2.2 x17_3 p618 q618
                cases e618
                replace p618 := eq_true p618
                replace q618 := eq_true q618
                go_wp2_with (first | (go_at_call 35; (with_reducible refine (ice_Tonight.calls k3 _ _ l0 _ _ l1 (rd t613 x17_3) t619 t620 _ ?side1 ?side2 ?side3 ?side4 A38.out).mono ?_); (case side1 => repeat (first | exact (Kd.C_below HR0.out HB.out) | (with_reducible refine Kd.C_alloc ?_ _) | (with_reducible refine Kd.C_drewN ?_ _) | (with_reducible refine Kd.C_drew ?_))); (case side2 => exact HC0.out); (case side3 => repeat (first | exact (Kd.C_below HR1.out HB.out) | (with_reducible refine Kd.C_alloc ?_ _) | (with_reducible refine Kd.C_drewN ?_ _) | (with_reducible refine Kd.C_drew ?_))); (case side4 => exact HC1.out); rintro e w45 ⟨v621, rfl, ho0, hb⟩; have n0_ := Aside0.mk (Kd.R_elder' (by (with_reducible repeat (first | apply Kd.R_alloc | apply Kd.R_drewN | apply Kd.R_drew)); exact HO_15.out) (Kd.R_base ho0) hb); have n1_ := Aside0.mk (Kd.R_lower (Kd.R_new' ho0 (Kd.R_lt (by (with_reducible repeat (first | apply Kd.R_alloc | apply Kd.R_drewN | apply Kd.R_drew)); exact HO_15.out))) (below_size (by repeat (first | (with_reducible first | exact HB.out | apply below_alloc | apply pw_below_drewN | apply below_drew1 | refine below_set ?_ GE601.out) | exact HB.out)))); have n2_ := Aside0.mk (bkB BK601 hb); have n3_ := Aside0.mk (below_step (by repeat (first | (with_reducible first | exact HB.out | apply below_alloc | apply pw_below_drewN | apply below_drew1 | refine below_set ?_ GE601.out) | exact HB.out)) hb); clear HO_15; clear BK601; clear HB; have HO_15 := n0_; have HO622 := n1_; have BK601 := n2_; have HB := n3_; clear n0_ n1_ n2_ n3_; (try clear hb); (try clear hb2); (try clear hk); (try clear hi); (try clear ho0)) | (go_at_call 42; (with_reducible refine (dropperref08_Count.calls k3 _ _ l0 t623 _ ?side1 ?side2 A39.out).mono ?_); (case side1 => repeat (first | exact (Kd.C_below HR0.out HB.out) | (with_reducible refine Kd.C_alloc ?_ _) | (with_reducible refine Kd.C_drewN ?_ _) | (with_reducible refine Kd.C_drew ?_))); (case side2 => exact HC0.out); rintro e w' ⟨rfl, ⟨nd, rfl⟩⟩; (try first | exact ⟨rfl, _, World.drewN_drewN _ _ _⟩ | exact ⟨rfl, _, Eq.trans (World.drewN_drewN _ _ _) (congrArg (World.drewN _) (Nat.add_assoc _ _ _))⟩); obtain ⟨Ao46, co46, eo46⟩ := Kd.R_slice HO622.out; subst eo46) | (go_at_call 39; (with_reducible refine (ice_For.calls k3 _ _ l0 _ _ t619 t623 t624 t625 _ ?side1 ?side2 ?side3 ?side4 A40.out).mono ?_); (case side1 => repeat (first | exact (Kd.C_below HR0.out (by repeat (first | (with_reducible first | exact HB.out | apply below_alloc | apply pw_below_drewN | apply below_drew1 | refine below_set ?_ GE601.out) | exact HB.out))) | (with_reducible refine Kd.C_alloc ?_ _) | (with_reducible refine Kd.C_drewN ?_ _) | (with_reducible refine Kd.C_drew ?_))); (case side2 => exact HC0.out); (case side3 => repeat (first | exact (Kd.R_reads' HO622.out).2.2 | (with_reducible refine Kd.C_alloc ?_ _) | (with_reducible refine Kd.C_drewN ?_ _) | (with_reducible refine Kd.C_drew ?_))); (case side4 => exact (Kd.R_reads' HO622.out).2.1); rintro e w47 ⟨rfl, hb⟩; have n0_ := Aside0.mk (Kd.R_below (by (with_reducible repeat (first | apply Kd.R_alloc | apply Kd.R_drewN | apply Kd.R_drew)); exact HO_15.out) hb); have n1_ := Aside0.mk (Kd.R_below (by (with_reducible repeat (first | apply Kd.R_alloc | apply Kd.R_drewN | apply Kd.R_drew)); exact HO622.out) hb); have n2_ := Aside0.mk (bkB BK601 hb); have n3_ := Aside0.mk (below_step (by repeat (first | (with_reducible first | exact HB.out | apply below_alloc | apply pw_below_drewN | apply below_drew1 | refine below_set ?_ GE601.out) | exact HB.out)) hb); clear HO_15; clear HO622; clear BK601; clear HB; have HO_15 := n0_; have HO622 := n1_; have BK601 := n2_; have HB := n3_; clear n0_ n1_ n2_ n3_; (try clear hb); (try clear hb2); (try clear hk); (try clear hi)))
                repeat (go_quiet (first | (go_at_call 35; (with_reducible refine (ice_Tonight.calls k3 _ _ l0 _ _ l1 (rd t613 x17_3) t619 t620 _ ?side1 ?side2 ?side3 ?side4 A38.out).mono ?_); (case side1 => repeat (first | exact (Kd.C_below HR0.out HB.out) | (with_reducible refine Kd.C_alloc ?_ _) | (with_reducible refine Kd.C_drewN ?_ _) | (with_reducible refine Kd.C_drew ?_))); (case side2 => exact HC0.out); (case side3 => repeat (first | exact (Kd.C_below HR1.out HB.out) | (with_reducible refine Kd.C_alloc ?_ _) | (with_reducible refine Kd.C_drewN ?_ _) | (with_reducible refine Kd.C_drew ?_))); (case side4 => exact HC1.out); rintro e w45 ⟨v621, rfl, ho0, hb⟩; have n0_ := Aside0.mk (Kd.R_elder' (by (with_reducible repeat (first | apply Kd.R_alloc | apply Kd.R_drewN | apply Kd.R_drew)); exact HO_15.out) (Kd.R_base ho0) hb); have n1_ := Aside0.mk (Kd.R_lower (Kd.R_new' ho0 (Kd.R_lt (by (with_reducible repeat (first | apply Kd.R_alloc | apply Kd.R_drewN | apply Kd.R_drew)); exact HO_15.out))) (below_size (by repeat (first | (with_reducible first | exact HB.out | apply below_alloc | apply pw_below_drewN | apply below_drew1 | refine below_set ?_ GE601.out) | exact HB.out)))); have n2_ := Aside0.mk (bkB BK601 hb); have n3_ := Aside0.mk (below_step (by repeat (first | (with_reducible first | exact HB.out | apply below_alloc | apply pw_below_drewN | apply below_drew1 | refine below_set ?_ GE601.out) | exact HB.out)) hb); clear HO_15; clear BK601; clear HB; have HO_15 := n0_; have HO622 := n1_; have BK601 := n2_; have HB := n3_; clear n0_ n1_ n2_ n3_; (try clear hb); (try clear hb2); (try clear hk); (try clear hi); (try clear ho0)) | (go_at_call 42; (with_reducible refine (dropperref08_Count.calls k3 _ _ l0 t623 _ ?side1 ?side2 A39.out).mono ?_); (case side1 => repeat (first | exact (Kd.C_below HR0.out HB.out) | (with_reducible refine Kd.C_alloc ?_ _) | (with_reducible refine Kd.C_drewN ?_ _) | (with_reducible refine Kd.C_drew ?_))); (case side2 => exact HC0.out); rintro e w' ⟨rfl, ⟨nd, rfl⟩⟩; (try first | exact ⟨rfl, _, World.drewN_drewN _ _ _⟩ | exact ⟨rfl, _, Eq.trans (World.drewN_drewN _ _ _) (congrArg (World.drewN _) (Nat.add_assoc _ _ _))⟩); obtain ⟨Ao46, co46, eo46⟩ := Kd.R_slice HO622.out; subst eo46) | (go_at_call 39; (with_reducible refine (ice_For.calls k3 _ _ l0 _ _ t619 t623 t624 t625 _ ?side1 ?side2 ?side3 ?side4 A40.out).mono ?_); (case side1 => repeat (first | exact (Kd.C_below HR0.out (by repeat (first | (with_reducible first | exact HB.out | apply below_alloc | apply pw_below_drewN | apply below_drew1 | refine below_set ?_ GE601.out) | exact HB.out))) | (with_reducible refine Kd.C_alloc ?_ _) | (with_reducible refine Kd.C_drewN ?_ _) | (with_reducible refine Kd.C_drew ?_))); (case side2 => exact HC0.out); (case side3 => repeat (first | exact (Kd.R_reads' HO622.out).2.2 | (with_reducible refine Kd.C_alloc ?_ _) | (with_reducible refine Kd.C_drewN ?_ _) | (with_reducible refine Kd.C_drew ?_))); (case side4 => exact (Kd.R_reads' HO622.out).2.1); rintro e w47 ⟨rfl, hb⟩; have n0_ := Aside0.mk (Kd.R_below (by (with_reducible repeat (first | apply Kd.R_alloc | apply Kd.R_drewN | apply Kd.R_drew)); exact HO_15.out) hb); have n1_ := Aside0.mk (Kd.R_below (by (with_reducible repeat (first | apply Kd.R_alloc | apply Kd.R_drewN | apply Kd.R_drew)); exact HO622.out) hb); have n2_ := Aside0.mk (bkB BK601 hb); have n3_ := Aside0.mk (below_step (by repeat (first | (with_reducible first | exact HB.out | apply below_alloc | apply pw_below_drewN | apply below_drew1 | refine below_set ?_ GE601.out) | exact HB.out)) hb); clear HO_15; clear HO622; clear BK601; clear HB; have HO_15 := n0_; have HO622 := n1_; have BK601 := n2_; have HB := n3_; clear n0_ n1_ n2_ n3_; (try clear hb); (try clear hb2); (try clear hk); (try clear hi))); try go_wp2_with (first | (go_at_call 35; (with_reducible refine (ice_Tonight.calls k3 _ _ l0 _ _ l1 (rd t613 x17_3) t619 t620 _ ?side1 ?side2 ?side3 ?side4 A38.out).mono ?_); (case side1 => repeat (first | exact (Kd.C_below HR0.out HB.out) | (with_reducible refine Kd.C_alloc ?_ _) | (with_reducible refine Kd.C_drewN ?_ _) | (with_reducible refine Kd.C_drew ?_))); (case side2 => exact HC0.out); (case side3 => repeat (first | exact (Kd.C_below HR1.out HB.out) | (with_reducible refine Kd.C_alloc ?_ _) | (with_reducible refine Kd.C_drewN ?_ _) | (with_reducible refine Kd.C_drew ?_))); (case side4 => exact HC1.out); rintro e w45 ⟨v621, rfl, ho0, hb⟩; have n0_ := Aside0.mk (Kd.R_elder' (by (with_reducible repeat (first | apply Kd.R_alloc | apply Kd.R_drewN | apply Kd.R_drew)); exact HO_15.out) (Kd.R_base ho0) hb); have n1_ := Aside0.mk (Kd.R_lower (Kd.R_new' ho0 (Kd.R_lt (by (with_reducible repeat (first | apply Kd.R_alloc | apply Kd.R_drewN | apply Kd.R_drew)); exact HO_15.out))) (below_size (by repeat (first | (with_reducible first | exact HB.out | apply below_alloc | apply pw_below_drewN | apply below_drew1 | refine below_set ?_ GE601.out) | exact HB.out)))); have n2_ := Aside0.mk (bkB BK601 hb); have n3_ := Aside0.mk (below_step (by repeat (first | (with_reducible first | exact HB.out | apply below_alloc | apply pw_below_drewN | apply below_drew1 | refine below_set ?_ GE601.out) | exact HB.out)) hb); clear HO_15; clear BK601; clear HB; have HO_15 := n0_; have HO622 := n1_; have BK601 := n2_; have HB := n3_; clear n0_ n1_ n2_ n3_; (try clear hb); (try clear hb2); (try clear hk); (try clear hi); (try clear ho0)) | (go_at_call 42; (with_reducible refine (dropperref08_Count.calls k3 _ _ l0 t623 _ ?side1 ?side2 A39.out).mono ?_); (case side1 => repeat (first | exact (Kd.C_below HR0.out HB.out) | (with_reducible refine Kd.C_alloc ?_ _) | (with_reducible refine Kd.C_drewN ?_ _) | (with_reducible refine Kd.C_drew ?_))); (case side2 => exact HC0.out); rintro e w' ⟨rfl, ⟨nd, rfl⟩⟩; (try first | exact ⟨rfl, _, World.drewN_drewN _ _ _⟩ | exact ⟨rfl, _, Eq.trans (World.drewN_drewN _ _ _) (congrArg (World.drewN _) (Nat.add_assoc _ _ _))⟩); obtain ⟨Ao46, co46, eo46⟩ := Kd.R_slice HO622.out; subst eo46) | (go_at_call 39; (with_reducible refine (ice_For.calls k3 _ _ l0 _ _ t619 t623 t624 t625 _ ?side1 ?side2 ?side3 ?side4 A40.out).mono ?_); (case side1 => repeat (first | exact (Kd.C_below HR0.out (by repeat (first | (with_reducible first | exact HB.out | apply below_alloc | apply pw_below_drewN | apply below_drew1 | refine below_set ?_ GE601.out) | exact HB.out))) | (with_reducible refine Kd.C_alloc ?_ _) | (with_reducible refine Kd.C_drewN ?_ _) | (with_reducible refine Kd.C_drew ?_))); (case side2 => exact HC0.out); (case side3 => repeat (first | exact (Kd.R_reads' HO622.out).2.2 | (with_reducible refine Kd.C_alloc ?_ _) | (with_reducible refine Kd.C_drewN ?_ _) | (with_reducible refine Kd.C_drew ?_))); (case side4 => exact (Kd.R_reads' HO622.out).2.1); rintro e w47 ⟨rfl, hb⟩; have n0_ := Aside0.mk (Kd.R_below (by (with_reducible repeat (first | apply Kd.R_alloc | apply Kd.R_drewN | apply Kd.R_drew)); exact HO_15.out) hb); have n1_ := Aside0.mk (Kd.R_below (by (with_reducible repeat (first | apply Kd.R_alloc | apply Kd.R_drewN | apply Kd.R_drew)); exact HO622.out) hb); have n2_ := Aside0.mk (bkB BK601 hb); have n3_ := Aside0.mk (below_step (by repeat (first | (with_reducible first | exact HB.out | apply below_alloc | apply pw_below_drewN | apply below_drew1 | refine below_set ?_ GE601.out) | exact HB.out)) hb); clear HO_15; clear HO622; clear BK601; clear HB; have HO_15 := n0_; have HO622 := n1_; have BK601 := n2_; have HB := n3_; clear n0_ n1_ n2_ n3_; (try clear hb); (try clear hb2); (try clear hk); (try clear hi))))
                go_roundg k3
                case measure => have := HJ3.out; have := HJ19.out; have := HK3.out; omega
                case rel => exact ⟨(true), (wrap64 (x17_3 + 1)), (by first | rfl | (simp; done) | (simp [*]; done)), (by first | rfl | (simp; done) | (simp [*]; done)), H', ⟨by have := HJ3.out; have := HJ19.out; have := HK3.out; omega⟩, ⟨by (with_reducible repeat (first | apply Kd.R_alloc | apply Kd.R_drewN | apply Kd.R_drew)); exact Kd.R_mono HO_15.out (fun _ hk => trivial)⟩, ⟨bkU BK601⟩, ⟨by repeat (first | (with_reducible first | exact HB.out | apply below_alloc | apply pw_below_drewN | apply below_drew1 | refine below_set ?_ GE601.out) | exact HB.out)⟩⟩
              replace c43 := Bool.eq_false_iff.mpr c43
              subst c43
              have H1 : (dropperlaw08_IceStates.l0 k3 l0 l1 t611 t613 t624 (wrap64 (x17_3 + 1))) = some r := by rw [if_neg (show ¬ (false = true) by decide)] at H; exact H
              clear H
              have H := H1
              clear H1
              have H' := Aside0.mk H
              clear H
              obtain ⟨Ao48, co48, eo48⟩ := Kd.R_slice HO_15.out
              subst eo48
              have p618 : 0 ≤ (x17_3 : Int) := of_decide_eq_true (by first | (with_reducible assumption) | assumption)
              have q618 : x17_3 < (t613.length : Int) := of_decide_eq_true (by first | (with_reducible assumption) | assumption)
              obtain ⟨ad618, e618, hx618_0⟩ := Kd.at_int (Kd.R_reads' HO_15.out).2.2 x17_3 p618 q618
              cases e618
              replace p618 := eq_true p618
              replace q618 := eq_true q618
              go_wp2_with (first | (go_at_call 35; (with_reducible refine (ice_Tonight.calls k3 _ _ l0 _ _ l1 (rd t613 x17_3) t619 t620 _ ?side1 ?side2 ?side3 ?side4 A38.out).mono ?_); (case side1 => repeat (first | exact (Kd.C_below HR0.out HB.out) | (with_reducible refine Kd.C_alloc ?_ _) | (with_reducible refine Kd.C_drewN ?_ _) | (with_reducible refine Kd.C_drew ?_))); (case side2 => exact HC0.out); (case side3 => repeat (first | exact (Kd.C_below HR1.out HB.out) | (with_reducible refine Kd.C_alloc ?_ _) | (with_reducible refine Kd.C_drewN ?_ _) | (with_reducible refine Kd.C_drew ?_))); (case side4 => exact HC1.out); rintro e w49 ⟨v621, rfl, ho0, hb⟩; have n0_ := Aside0.mk (Kd.R_elder' (by (with_reducible repeat (first | apply Kd.R_alloc | apply Kd.R_drewN | apply Kd.R_drew)); exact HO_15.out) (Kd.R_base ho0) hb); have n1_ := Aside0.mk (Kd.R_lower (Kd.R_new' ho0 (Kd.R_lt (by (with_reducible repeat (first | apply Kd.R_alloc | apply Kd.R_drewN | apply Kd.R_drew)); exact HO_15.out))) (below_size (by repeat (first | (with_reducible first | exact HB.out | apply below_alloc | apply pw_below_drewN | apply below_drew1 | refine below_set ?_ GE601.out) | exact HB.out)))); have n2_ := Aside0.mk (bkB BK601 hb); have n3_ := Aside0.mk (below_step (by repeat (first | (with_reducible first | exact HB.out | apply below_alloc | apply pw_below_drewN | apply below_drew1 | refine below_set ?_ GE601.out) | exact HB.out)) hb); clear HO_15; clear BK601; clear HB; have HO_15 := n0_; have HO622 := n1_; have BK601 := n2_; have HB := n3_; clear n0_ n1_ n2_ n3_; (try clear hb); (try clear hb2); (try clear hk); (try clear hi); (try clear ho0)) | (go_at_call 42; (with_reducible refine (dropperref08_Count.calls k3 _ _ l0 t623 _ ?side1 ?side2 A39.out).mono ?_); (case side1 => repeat (first | exact (Kd.C_below HR0.out HB.out) | (with_reducible refine Kd.C_alloc ?_ _) | (with_reducible refine Kd.C_drewN ?_ _) | (with_reducible refine Kd.C_drew ?_))); (case side2 => exact HC0.out); rintro e w' ⟨rfl, ⟨nd, rfl⟩⟩; (try first | exact ⟨rfl, _, World.drewN_drewN _ _ _⟩ | exact ⟨rfl, _, Eq.trans (World.drewN_drewN _ _ _) (congrArg (World.drewN _) (Nat.add_assoc _ _ _))⟩); obtain ⟨Ao50, co50, eo50⟩ := Kd.R_slice HO622.out; subst eo50) | (go_at_call 39; (with_reducible refine (ice_For.calls k3 _ _ l0 _ _ t619 t623 t624 t625 _ ?side1 ?side2 ?side3 ?side4 A40.out).mono ?_); (case side1 => repeat (first | exact (Kd.C_below HR0.out (by repeat (first | (with_reducible first | exact HB.out | apply below_alloc | apply pw_below_drewN | apply below_drew1 | refine below_set ?_ GE601.out) | exact HB.out))) | (with_reducible refine Kd.C_alloc ?_ _) | (with_reducible refine Kd.C_drewN ?_ _) | (with_reducible refine Kd.C_drew ?_))); (case side2 => exact HC0.out); (case side3 => repeat (first | exact (Kd.R_reads' HO622.out).2.2 | (with_reducible refine Kd.C_alloc ?_ _) | (with_reducible refine Kd.C_drewN ?_ _) | (with_reducible refine Kd.C_drew ?_))); (case side4 => exact (Kd.R_reads' HO622.out).2.1); rintro e w51 ⟨rfl, hb⟩; have n0_ := Aside0.mk (Kd.R_below (by (with_reducible repeat (first | apply Kd.R_alloc | apply Kd.R_drewN | apply Kd.R_drew)); exact HO_15.out) hb); have n1_ := Aside0.mk (Kd.R_below (by (with_reducible repeat (first | apply Kd.R_alloc | apply Kd.R_drewN | apply Kd.R_drew)); exact HO622.out) hb); have n2_ := Aside0.mk (bkB BK601 hb); have n3_ := Aside0.mk (below_step (by repeat (first | (with_reducible first | exact HB.out | apply below_alloc | apply pw_below_drewN | apply below_drew1 | refine below_set ?_ GE601.out) | exact HB.out)) hb); clear HO_15; clear HO622; clear BK601; clear HB; have HO_15 := n0_; have HO622 := n1_; have BK601 := n2_; have HB := n3_; clear n0_ n1_ n2_ n3_; (try clear hb); (try clear hb2); (try clear hk); (try clear hi)))
              repeat (go_quiet (first | (go_at_call 35; (with_reducible refine (ice_Tonight.calls k3 _ _ l0 _ _ l1 (rd t613 x17_3) t619 t620 _ ?side1 ?side2 ?side3 ?side4 A38.out).mono ?_); (case side1 => repeat (first | exact (Kd.C_below HR0.out HB.out) | (with_reducible refine Kd.C_alloc ?_ _) | (with_reducible refine Kd.C_drewN ?_ _) | (with_reducible refine Kd.C_drew ?_))); (case side2 => exact HC0.out); (case side3 => repeat (first | exact (Kd.C_below HR1.out HB.out) | (with_reducible refine Kd.C_alloc ?_ _) | (with_reducible refine Kd.C_drewN ?_ _) | (with_reducible refine Kd.C_drew ?_))); (case side4 => exact HC1.out); rintro e w49 ⟨v621, rfl, ho0, hb⟩; have n0_ := Aside0.mk (Kd.R_elder' (by (with_reducible repeat (first | apply Kd.R_alloc | apply Kd.R_drewN | apply Kd.R_drew)); exact HO_15.out) (Kd.R_base ho0) hb); have n1_ := Aside0.mk (Kd.R_lower (Kd.R_new' ho0 (Kd.R_lt (by (with_reducible repeat (first | apply Kd.R_alloc | apply Kd.R_drewN | apply Kd.R_drew)); exact HO_15.out))) (below_size (by repeat (first | (with_reducible first | exact HB.out | apply below_alloc | apply pw_below_drewN | apply below_drew1 | refine below_set ?_ GE601.out) | exact HB.out)))); have n2_ := Aside0.mk (bkB BK601 hb); have n3_ := Aside0.mk (below_step (by repeat (first | (with_reducible first | exact HB.out | apply below_alloc | apply pw_below_drewN | apply below_drew1 | refine below_set ?_ GE601.out) | exact HB.out)) hb); clear HO_15; clear BK601; clear HB; have HO_15 := n0_; have HO622 := n1_; have BK601 := n2_; have HB := n3_; clear n0_ n1_ n2_ n3_; (try clear hb); (try clear hb2); (try clear hk); (try clear hi); (try clear ho0)) | (go_at_call 42; (with_reducible refine (dropperref08_Count.calls k3 _ _ l0 t623 _ ?side1 ?side2 A39.out).mono ?_); (case side1 => repeat (first | exact (Kd.C_below HR0.out HB.out) | (with_reducible refine Kd.C_alloc ?_ _) | (with_reducible refine Kd.C_drewN ?_ _) | (with_reducible refine Kd.C_drew ?_))); (case side2 => exact HC0.out); rintro e w' ⟨rfl, ⟨nd, rfl⟩⟩; (try first | exact ⟨rfl, _, World.drewN_drewN _ _ _⟩ | exact ⟨rfl, _, Eq.trans (World.drewN_drewN _ _ _) (congrArg (World.drewN _) (Nat.add_assoc _ _ _))⟩); obtain ⟨Ao50, co50, eo50⟩ := Kd.R_slice HO622.out; subst eo50) | (go_at_call 39; (with_reducible refine (ice_For.calls k3 _ _ l0 _ _ t619 t623 t624 t625 _ ?side1 ?side2 ?side3 ?side4 A40.out).mono ?_); (case side1 => repeat (first | exact (Kd.C_below HR0.out (by repeat (first | (with_reducible first | exact HB.out | apply below_alloc | apply pw_below_drewN | apply below_drew1 | refine below_set ?_ GE601.out) | exact HB.out))) | (with_reducible refine Kd.C_alloc ?_ _) | (with_reducible refine Kd.C_drewN ?_ _) | (with_reducible refine Kd.C_drew ?_))); (case side2 => exact HC0.out); (case side3 => repeat (first | exact (Kd.R_reads' HO622.out).2.2 | (with_reducible refine Kd.C_alloc ?_ _) | (with_reducible refine Kd.C_drewN ?_ _) | (with_reducible refine Kd.C_drew ?_))); (case side4 => exact (Kd.R_reads' HO622.out).2.1); rintro e w51 ⟨rfl, hb⟩; have n0_ := Aside0.mk (Kd.R_below (by (with_reducible repeat (first | apply Kd.R_alloc | apply Kd.R_drewN | apply Kd.R_drew)); exact HO_15.out) hb); have n1_ := Aside0.mk (Kd.R_below (by (with_reducible repeat (first | apply Kd.R_alloc | apply Kd.R_drewN | apply Kd.R_drew)); exact HO622.out) hb); have n2_ := Aside0.mk (bkB BK601 hb); have n3_ := Aside0.mk (below_step (by repeat (first | (with_reducible first | exact HB.out | apply below_alloc | apply pw_below_drewN | apply below_drew1 | refine below_set ?_ GE601.out) | exact HB.out)) hb); clear HO_15; clear HO622; clear BK601; clear HB; have HO_15 := n0_; have HO622 := n1_; have BK601 := n2_; have HB := n3_; clear n0_ n1_ n2_ n3_; (try clear hb); (try clear hb2); (try clear hk); (try clear hi))); try go_wp2_with (first | (go_at_call 35; (with_reducible refine (ice_Tonight.calls k3 _ _ l0 _ _ l1 (rd t613 x17_3) t619 t620 _ ?side1 ?side2 ?side3 ?side4 A38.out).mono ?_); (case side1 => repeat (first | exact (Kd.C_below HR0.out HB.out) | (with_reducible refine Kd.C_alloc ?_ _) | (with_reducible refine Kd.C_drewN ?_ _) | (with_reducible refine Kd.C_drew ?_))); (case side2 => exact HC0.out); (case side3 => repeat (first | exact (Kd.C_below HR1.out HB.out) | (with_reducible refine Kd.C_alloc ?_ _) | (with_reducible refine Kd.C_drewN ?_ _) | (with_reducible refine Kd.C_drew ?_))); (case side4 => exact HC1.out); rintro e w49 ⟨v621, rfl, ho0, hb⟩; have n0_ := Aside0.mk (Kd.R_elder' (by (with_reducible repeat (first | apply Kd.R_alloc | apply Kd.R_drewN | apply Kd.R_drew)); exact HO_15.out) (Kd.R_base ho0) hb); have n1_ := Aside0.mk (Kd.R_lower (Kd.R_new' ho0 (Kd.R_lt (by (with_reducible repeat (first | apply Kd.R_alloc | apply Kd.R_drewN | apply Kd.R_drew)); exact HO_15.out))) (below_size (by repeat (first | (with_reducible first | exact HB.out | apply below_alloc | apply pw_below_drewN | apply below_drew1 | refine below_set ?_ GE601.out) | exact HB.out)))); have n2_ := Aside0.mk (bkB BK601 hb); have n3_ := Aside0.mk (below_step (by repeat (first | (with_reducible first | exact HB.out | apply below_alloc | apply pw_below_drewN | apply below_drew1 | refine below_set ?_ GE601.out) | exact HB.out)) hb); clear HO_15; clear BK601; clear HB; have HO_15 := n0_; have HO622 := n1_; have BK601 := n2_; have HB := n3_; clear n0_ n1_ n2_ n3_; (try clear hb); (try clear hb2); (try clear hk); (try clear hi); (try clear ho0)) | (go_at_call 42; (with_reducible refine (dropperref08_Count.calls k3 _ _ l0 t623 _ ?side1 ?side2 A39.out).mono ?_); (case side1 => repeat (first | exact (Kd.C_below HR0.out HB.out) | (with_reducible refine Kd.C_alloc ?_ _) | (with_reducible refine Kd.C_drewN ?_ _) | (with_reducible refine Kd.C_drew ?_))); (case side2 => exact HC0.out); rintro e w' ⟨rfl, ⟨nd, rfl⟩⟩; (try first | exact ⟨rfl, _, World.drewN_drewN _ _ _⟩ | exact ⟨rfl, _, Eq.trans (World.drewN_drewN _ _ _) (congrArg (World.drewN _) (Nat.add_assoc _ _ _))⟩); obtain ⟨Ao50, co50, eo50⟩ := Kd.R_slice HO622.out; subst eo50) | (go_at_call 39; (with_reducible refine (ice_For.calls k3 _ _ l0 _ _ t619 t623 t624 t625 _ ?side1 ?side2 ?side3 ?side4 A40.out).mono ?_); (case side1 => repeat (first | exact (Kd.C_below HR0.out (by repeat (first | (with_reducible first | exact HB.out | apply below_alloc | apply pw_below_drewN | apply below_drew1 | refine below_set ?_ GE601.out) | exact HB.out))) | (with_reducible refine Kd.C_alloc ?_ _) | (with_reducible refine Kd.C_drewN ?_ _) | (with_reducible refine Kd.C_drew ?_))); (case side2 => exact HC0.out); (case side3 => repeat (first | exact (Kd.R_reads' HO622.out).2.2 | (with_reducible refine Kd.C_alloc ?_ _) | (with_reducible refine Kd.C_drewN ?_ _) | (with_reducible refine Kd.C_drew ?_))); (case side4 => exact (Kd.R_reads' HO622.out).2.1); rintro e w51 ⟨rfl, hb⟩; have n0_ := Aside0.mk (Kd.R_below (by (with_reducible repeat (first | apply Kd.R_alloc | apply Kd.R_drewN | apply Kd.R_drew)); exact HO_15.out) hb); have n1_ := Aside0.mk (Kd.R_below (by (with_reducible repeat (first | apply Kd.R_alloc | apply Kd.R_drewN | apply Kd.R_drew)); exact HO622.out) hb); have n2_ := Aside0.mk (bkB BK601 hb); have n3_ := Aside0.mk (below_step (by repeat (first | (with_reducible first | exact HB.out | apply below_alloc | apply pw_below_drewN | apply below_drew1 | refine below_set ?_ GE601.out) | exact HB.out)) hb); clear HO_15; clear HO622; clear BK601; clear HB; have HO_15 := n0_; have HO622 := n1_; have BK601 := n2_; have HB := n3_; clear n0_ n1_ n2_ n3_; (try clear hb); (try clear hb2); (try clear hk); (try clear hi))))
              go_roundg k3
              case measure => have := HJ3.out; have := HJ19.out; have := HK3.out; omega
              case rel => exact ⟨(t624), (wrap64 (x17_3 + 1)), (by first | rfl | (simp; done) | (simp [*]; done)), (by first | rfl | (simp; done) | (simp [*]; done)), H', ⟨by have := HJ3.out; have := HJ19.out; have := HK3.out; omega⟩, ⟨by (with_reducible repeat (first | apply Kd.R_alloc | apply Kd.R_drewN | apply Kd.R_drew)); exact Kd.R_mono HO_15.out (fun _ hk => trivial)⟩, ⟨bkU BK601⟩, ⟨by repeat (first | (with_reducible first | exact HB.out | apply below_alloc | apply pw_below_drewN | apply below_drew1 | refine below_set ?_ GE601.out) | exact HB.out)⟩⟩
end Go.Proofs.Ythbpibdfookbmaa.G
