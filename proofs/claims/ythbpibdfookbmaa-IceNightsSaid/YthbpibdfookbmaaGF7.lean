-- Written by this session's driver (wip/tools/printmore.py) over the kit's print, with hand-written parts.
import Derived.Test.YthbpibdfookbmaaGBase
import Derived.Test.YthbpibdfookbmaaGF15
import Derived.Test.YthbpibdfookbmaaGF12
import Derived.Test.YthbpibdfookbmaaGF20
import Derived.Test.YthbpibdfookbmaaGF35
import Derived.Test.YthbpibdfookbmaaGF36
import Derived.Test.YthbpibdfookbmaaGF37
import Derived.Test.YthbpibdfookbmaaGF38
import Derived.Test.YthbpibdfookbmaaGF39
import Derived.Test.YthbpibdfookbmaaGF40
namespace Go.Proofs.Ythbpibdfookbmaa.G
open Go.RowKit Go.Proofs.YthbpibdfookbmaaW.PrintWords Go.Proofs.YthbpibdfookbmaaW.PrintLast Go.Proofs.YthbpibdfookbmaaW.PrintMore
attribute [local go_sem] max2_int min2_int max_two min_two max_three min_three max_four min_four   -- for this text's walks alone
set_option linter.unusedVariables false
set_option linter.unusedSimpArgs false

/-! ### dropperlaw08_IceNights: function 7 -/
def dropperlaw08_IceNights.j0 : Nat → List Int → List Int → Bool → Int → Int → Option (Bool)
  | 0, _, _, _, _, _ => none
  | k + 1, x0, x1, x44, x102000, x102001 => if x44 = true then (some false) else ((ice_Choices.f k x0 x1).bind fun bt116 => ((dropperref08_Choices.f k x0 x1).bind fun bt120 => ((ice_For.f k x0 x1 x102001).bind fun bt124 => ((dropperref08_For.f k x0 x1 x102001).bind fun bt126 => (if bt116.2 = bt120.2 then ((dropperlaw08_SameInts.f k bt116.1 bt120.1).bind fun t128 => (if t128 = true then (if (bt124.1 == bt126.1) = true then (if bt124.2 = bt126.2 then ((dropperlaw08_Awake.f k).bind fun t129 => (some t129)) else (some false)) else (some false)) else (some false))) else (some false))))))
def dropperlaw08_IceNights.f (k : Nat) (l0 : List Int) (l1 : List Int) (a2_0 : Int) (a2_1 : Int) : Option (Bool) := (dropperlaw08_Many.f k l0 (([l1] : List (List Int)))).bind fun t105 => (if t105 = true then ((dropperlaw08_Awake.f k).bind fun t106 => (some t106)) else ((ice_Tonight.f k l0 l1 a2_0).bind fun bt107 => ((dropperref08_Tonight.f k l0 l1 a2_0).bind fun bt111 => (if bt107.2 = bt111.2 then ((dropperlaw08_SameInts.f k bt107.1 bt111.1).bind fun t115 => (dropperlaw08_IceNights.j0 k l0 l1 (!t115) a2_0 a2_1)) else (dropperlaw08_IceNights.j0 k l0 l1 true a2_0 a2_1)))))
theorem dropperlaw08_IceNights.mono_l : ∀ k, (∀ y0 y1 y2 y3 y4, LeO (dropperlaw08_IceNights.j0 k y0 y1 y2 y3 y4) (dropperlaw08_IceNights.j0 (k + 1) y0 y1 y2 y3 y4))
  | 0 => fun _ _ _ _ _ r h => by simp [dropperlaw08_IceNights.j0] at h
  | k + 1 => by
    have ih0 := dropperlaw08_IceNights.mono_l k
    · intro y0 y1 y2 y3 y4
      unfold dropperlaw08_IceNights.j0
      repeat' first
      | (with_reducible exact ih0 _ _ _ _ _)
      | (with_reducible exact dropperlaw08_Awake.mono _)
      | (with_reducible exact dropperlaw08_Many.mono _ _ _)
      | (with_reducible exact dropperlaw08_SameInts.mono _ _ _)
      | (with_reducible exact dropperref08_Choices.mono _ _ _)
      | (with_reducible exact dropperref08_For.mono _ _ _ _)
      | (with_reducible exact dropperref08_Tonight.mono _ _ _ _)
      | (with_reducible exact ice_Choices.mono _ _ _)
      | (with_reducible exact ice_For.mono _ _ _ _)
      | (with_reducible exact ice_Tonight.mono _ _ _ _)
      | (with_reducible exact LeO.refl _)
      | (with_reducible exact LeO.none _)
      | (with_reducible refine LeO.ite ?_ ?_)
      | (with_reducible refine LeO.bind ?_ (fun _ => ?_))
      | exact ih0 _ _ _ _ _
      | exact dropperlaw08_Awake.mono _
      | exact dropperlaw08_Many.mono _ _ _
      | exact dropperlaw08_SameInts.mono _ _ _
      | exact dropperref08_Choices.mono _ _ _
      | exact dropperref08_For.mono _ _ _ _
      | exact dropperref08_Tonight.mono _ _ _ _
      | exact ice_Choices.mono _ _ _
      | exact ice_For.mono _ _ _ _
      | exact ice_Tonight.mono _ _ _ _
      | exact LeO.none _
      | refine LeO.ite ?_ ?_
      | refine LeO.bind ?_ (fun _ => ?_)
theorem dropperlaw08_IceNights.mono : ∀ a0 a1 a2 a3 k, LeO (dropperlaw08_IceNights.f k a0 a1 a2 a3) (dropperlaw08_IceNights.f (k + 1) a0 a1 a2 a3) := by
  intro a0 a1 a2 a3 k
  have ih0 := dropperlaw08_IceNights.mono_l k
  unfold dropperlaw08_IceNights.f
  repeat' first
      | (with_reducible exact ih0 _ _ _ _ _)
      | (with_reducible exact dropperlaw08_Awake.mono _)
      | (with_reducible exact dropperlaw08_Many.mono _ _ _)
      | (with_reducible exact dropperlaw08_SameInts.mono _ _ _)
      | (with_reducible exact dropperref08_Choices.mono _ _ _)
      | (with_reducible exact dropperref08_For.mono _ _ _ _)
      | (with_reducible exact dropperref08_Tonight.mono _ _ _ _)
      | (with_reducible exact ice_Choices.mono _ _ _)
      | (with_reducible exact ice_For.mono _ _ _ _)
      | (with_reducible exact ice_Tonight.mono _ _ _ _)
      | (with_reducible exact LeO.refl _)
      | (with_reducible exact LeO.none _)
      | (with_reducible refine LeO.ite ?_ ?_)
      | (with_reducible refine LeO.bind ?_ (fun _ => ?_))
      | exact ih0 _ _ _ _ _
      | exact dropperlaw08_Awake.mono _
      | exact dropperlaw08_Many.mono _ _ _
      | exact dropperlaw08_SameInts.mono _ _ _
      | exact dropperref08_Choices.mono _ _ _
      | exact dropperref08_For.mono _ _ _ _
      | exact dropperref08_Tonight.mono _ _ _ _
      | exact ice_Choices.mono _ _ _
      | exact ice_For.mono _ _ _ _
      | exact ice_Tonight.mono _ _ _ _
      | exact LeO.none _
      | refine LeO.ite ?_ ?_
      | refine LeO.bind ?_ (fun _ => ?_)
theorem dropperlaw08_IceNights.j0_no (k : Nat) (y0_ : List Int) (y1_ : List Int) (y102000_ : Int) (y102001_ : Int) : dropperlaw08_IceNights.j0 k y0_ y1_ true y102000_ y102001_ ≠ some true := by
  cases k with
  | zero => simp [dropperlaw08_IceNights.j0]
  | succ k => rw [dropperlaw08_IceNights.j0]; simp
set_option maxHeartbeats 8000000 in
set_option maxRecDepth 100000 in
theorem dropperlaw08_IceNights.calls (k : Nat) (A0 : Option Addr) (c0 : Nat) (l0 : List Int) (P1_ : Nat → Prop) (A1 : Option Addr) (c1 : Nat) (l1 : List Int) (a2_0 : Int) (a2_1 : Int) (r : Bool) (w : World) (hr0 : Kd.C (Kd.int .i64) w A0 l0.length l0) (hc0 : l0.length ≤ c0) (hs1 : Kd.V (Kd.int .i64) 3 w w.heap.size (fun k_ => P1_ k_) (.slice A1 l1.length c1) l1) (h : dropperlaw08_IceNights.f k l0 l1 a2_0 a2_1 = some r) (hT : r = true) :
    Calls Try.prog 7 #[.slice A0 l0.length c0, .slice A1 l1.length c1, .agg #[.int .i64 a2_0, .int .i64 a2_1]] w fun e w' => e = .returned (.bool r) ∧ Below w.heap.size w w' := by
  have hu41 := Try.underlying41
  have HR0 := Aside0.mk hr0
  have HC0 := Aside0.mk hc0
  clear hr0 hc0
  have HO1 := Aside0.mk (show Kd.V (Kd.int .i64) 3 w w.heap.size (fun k_ => (P1_ k_ ∨ w.heap.size ≤ k_)) (.slice A1 l1.length c1) l1 from Kd.V_mono hs1 (fun k_ hk => .inl hk))
  have HB := Aside0.mk (Below.refl w.heap.size w)
  have H : ((dropperlaw08_Many.f k l0 (([l1] : List (List Int)))).bind fun t105 => (if t105 = true then ((dropperlaw08_Awake.f k).bind fun t106 => (some t106)) else ((ice_Tonight.f k l0 l1 a2_0).bind fun bt107 => ((dropperref08_Tonight.f k l0 l1 a2_0).bind fun bt111 => (if bt107.2 = bt111.2 then ((dropperlaw08_SameInts.f k bt107.1 bt111.1).bind fun t115 => (dropperlaw08_IceNights.j0 k l0 l1 (!t115) a2_0 a2_1)) else (dropperlaw08_IceNights.j0 k l0 l1 true a2_0 a2_1)))))) = some r := h
  clear h
  obtain ⟨y102, hy102⟩ : ∃ y_ : List (List Int), y_ = (([l1] : List (List Int))) := ⟨_, rfl⟩
  replace H : ((dropperlaw08_Many.f k l0 y102).bind fun t105 => (if t105 = true then ((dropperlaw08_Awake.f k).bind fun t106 => (some t106)) else ((ice_Tonight.f k l0 l1 a2_0).bind fun bt107 => ((dropperref08_Tonight.f k l0 l1 a2_0).bind fun bt111 => (if bt107.2 = bt111.2 then ((dropperlaw08_SameInts.f k bt107.1 bt111.1).bind fun t115 => (dropperlaw08_IceNights.j0 k l0 l1 (!t115) a2_0 a2_1)) else (dropperlaw08_IceNights.j0 k l0 l1 true a2_0 a2_1)))))) = some r := by first | (rw [hy102]; with_reducible exact H) | (have H2_ := (Option.bind_some _ _).symm.trans H; rw [hy102]; with_reducible exact H2_) | (have H2_ := (Option.bind_some _ _).symm.trans H; with_reducible exact H2_) | with_reducible exact H | (rw [hy102]; exact H) | exact H
  have Ny102 := Aside0.mk hy102
  clear hy102
  replace H := Option.bind_eq_some_iff.mp H
  obtain ⟨t105, A40, H⟩ := H
  replace H : (if t105 = true then ((dropperlaw08_Awake.f k).bind fun t106 => (some t106)) else ((ice_Tonight.f k l0 l1 a2_0).bind fun bt107 => ((dropperref08_Tonight.f k l0 l1 a2_0).bind fun bt111 => (if bt107.2 = bt111.2 then ((dropperlaw08_SameInts.f k bt107.1 bt111.1).bind fun t115 => (dropperlaw08_IceNights.j0 k l0 l1 (!t115) a2_0 a2_1)) else (dropperlaw08_IceNights.j0 k l0 l1 true a2_0 a2_1))))) = some r := H
  have A4 := Aside0.mk A40
  clear A40
  by_cases c5 : t105 = true
  · subst c5
    have H1 : ((dropperlaw08_Awake.f k).bind fun t106 => (some t106)) = some r := by rw [if_pos rfl] at H; exact H
    clear H
    have H := H1
    clear H1
    replace H := Option.bind_eq_some_iff.mp H
    obtain ⟨t106, A60, H⟩ := H
    replace H : (some t106) = some r := H
    have A6 := Aside0.mk A60
    clear A60
    clear hT
    obtain rfl := Option.some.inj H
    go_enter Try.func7, Try.ntmps7
    go_wp2_with (first | ((with_reducible refine gate_dst (N := 5) rfl ?_); refine box_event ?hg (N := 5) ?hd (cs := #[.int .i64 a2_0, .int .i64 a2_1]) (t := 41) ?hr ?_; (case hd => rfl); (case hg => rfl); (case hr => first | (go_simp; done) | (go_simp; rfl)); intro gb101 hg w7 hbox hb; have n0_ := Aside0.mk (Kd.V_below (Kd.V_elderB (by (with_reducible repeat (first | apply Kd.V_alloc | apply Kd.V_drewN | apply Kd.V_drew)); exact HO1.out) gb101 (Nat.le_of_eq hg.symm)) hb); have n1_ := Aside0.mk (below_step (by repeat (first | (with_reducible first | exact HB.out | apply below_alloc | apply pw_below_drewN | apply below_drew1) | exact HB.out)) hb); have n2_ := Aside0.mk (hbox); have n3_ := Aside0.mk ((by rw [hg]; exact (below_size (by repeat (first | (with_reducible first | exact HB.out | apply below_alloc | apply pw_below_drewN | apply below_drew1) | exact HB.out))) : w.heap.size ≤ gb101)); have n4_ := Aside0.mk ((by rw [hg]; exact (below_size (by repeat (first | (with_reducible first | exact HB.out | apply below_alloc | apply pw_below_drewN | apply below_drew1) | exact HB.out))) : w.heap.size ≤ gb101)); clear HO1; clear HB; have HO1 := n0_; have HB := n1_; have BK101 := n2_; have GW101 := n3_; have GE101 := n4_; clear n0_ n1_ n2_ n3_ n4_; clear hb hbox hg) | ((with_reducible refine gate_dst (N := 17) rfl ?_); refine Kd.N_lit (Kd.slice 3 (Kd.int .i64)) _ 22 ?hg (N' := 17) ?hd (xs := ([l1] : List (List Int))) (inner := [.slice A1 l1.length c1]) (ok := (fun k_ => (P1_ k_ ∨ w.heap.size ≤ k_) ∧ k_ ≠ gb101)) (okp := (fun k_ => (P1_ k_ ∨ w.heap.size ≤ k_) ∧ k_ ≠ gb101)) ?hr ?hp (fun _ hk => hk) ((show ∀ k_, w7.heap.size ≤ k_ → (fun k_ => (P1_ k_ ∨ w.heap.size ≤ k_) ∧ k_ ≠ gb101) k_ from fun k_ hk => ⟨(.inr (Nat.le_trans (below_size (by repeat (first | (with_reducible first | exact HB.out | apply below_alloc | apply pw_below_drewN | apply below_drew1 | refine below_set ?_ GE101.out) | exact HB.out))) hk)), Kd.freshB (g := gb101) (o := .cells #[.int .i64 a2_0, .int .i64 a2_1] 41 (0, 0)) (bkU BK101) k_ hk⟩) _ (Nat.le_refl _)) (Below.refl _ _) (Nat.le_refl _) (by simp) ?_; (case hd => rfl); (case hg => rfl); (case hr => first | (go_simp; done) | (go_simp; rfl)); (case hp => exact (Reps.one (show Kd.FK (Kd.slice 3 (Kd.int .i64)) _ _ l1 [.slice A1 l1.length c1] from (Kd.FK_slice_mk (Kd.V_reads' HO1.out).2.1 (Kd.V_F (Kd.V_mono (ok' := (fun k_ => (P1_ k_ ∨ w.heap.size ≤ k_) ∧ k_ ≠ gb101)) ((show Kd.V (Kd.int .i64) 3 _ _ (fun k_ => ((P1_ k_ ∨ w.heap.size ≤ k_) ∧ k_ ≠ gb101)) (.slice A1 l1.length c1) l1 from by (with_reducible repeat (first | apply Kd.V_alloc | apply Kd.V_drewN | apply Kd.V_drew)); exact HO1.out)) (fun k_ hk => ⟨hk.1, hk.2⟩))))) (Reps.none _ _))); intro v103 w8 ho9 hb hg_ hnew_; clear hg_ hnew_; (first | rw [← Ny102.out] at ho9 | (simp only [Int.reduceToNat] at ho9; rw [← Ny102.out] at ho9)); have n0_ := Aside0.mk (Kd.V_elder' (by (with_reducible repeat (first | apply Kd.V_alloc | apply Kd.V_drewN | apply Kd.V_drew)); exact HO1.out) (Kd.N_base ho9) hb); have n1_ := Aside0.mk (Kd.N_lower ho9 (below_size (by repeat (first | (with_reducible first | exact HB.out | apply below_alloc | apply pw_below_drewN | apply below_drew1 | refine below_set ?_ GE101.out) | exact HB.out)))); have n2_ := Aside0.mk (bkB BK101 hb); have n3_ := Aside0.mk (below_step (by repeat (first | (with_reducible first | exact HB.out | apply below_alloc | apply pw_below_drewN | apply below_drew1 | refine below_set ?_ GE101.out) | exact HB.out)) hb); clear HO1; clear BK101; clear HB; have HO1 := n0_; have HO104 := n1_; have BK101 := n2_; have HB := n3_; clear n0_ n1_ n2_ n3_; clear hb ho9; obtain ⟨Ao10, co10, eo10⟩ := Kd.N_slice HO104.out; subst eo10) | ((with_reducible refine gate_callee (f := 20) rfl ?_); refine goesL_ (some 18) rfl rfl Try.func20 (by kernel_rfl) rfl #[.slice A0 l0.length c0, .slice Ao10 y102.length co10] rfl (by (try simp only [List.map_toArray, List.map_cons, List.map_nil]); first | done | rfl | (simp only [List.length_drop, List.length_take]; rfl)) ?_; (with_reducible refine (dropperlaw08_Many.calls k _ _ l0 _ _ y102 true _ ?side1 ?side2 ?side3 ?side4 A4.out).mono ?_); (case side1 => repeat (first | exact (Kd.C_below HR0.out HB.out) | (with_reducible refine Kd.C_alloc ?_ _) | (with_reducible refine Kd.C_drewN ?_ _) | (with_reducible refine Kd.C_drew ?_))); (case side2 => exact HC0.out); (case side3 => repeat (first | exact (Kd.N_reads' HO104.out).2.2 | (with_reducible refine Kd.C_alloc ?_ _) | (with_reducible refine Kd.C_drewN ?_ _) | (with_reducible refine Kd.C_drew ?_))); (case side4 => exact (Kd.N_reads' HO104.out).2.1); rintro e w' ⟨rfl, ⟨nd, rfl⟩⟩; refine ⟨_, rfl, ?_⟩) | ((with_reducible refine gate_callee (f := 12) rfl ?_); refine goesL_ (some 19) rfl rfl Try.func12 (by kernel_rfl) rfl #[] rfl (by (try simp only [List.map_toArray, List.map_cons, List.map_nil]); first | done | rfl | (simp only [List.length_drop, List.length_take]; rfl)) ?_; (with_reducible refine (dropperlaw08_Awake.calls k  t106 _ A6.out).mono ?_); rintro e w11 ⟨rfl, hb⟩; refine ⟨_, rfl, ?_⟩; have n0_ := Aside0.mk (Kd.V_below (by (with_reducible repeat (first | apply Kd.V_alloc | apply Kd.V_drewN | apply Kd.V_drew)); exact HO1.out) hb); have n1_ := Aside0.mk (Kd.N_below (by (with_reducible repeat (first | apply Kd.N_alloc | apply Kd.N_drewN | apply Kd.N_drew)); exact HO104.out) hb); have n2_ := Aside0.mk (bkB BK101 hb); have n3_ := Aside0.mk (below_step (by repeat (first | (with_reducible first | exact HB.out | apply below_alloc | apply pw_below_drewN | apply below_drew1 | refine below_set ?_ GE101.out) | exact HB.out)) hb); clear HO1; clear HO104; clear BK101; clear HB; have HO1 := n0_; have HO104 := n1_; have BK101 := n2_; have HB := n3_; clear n0_ n1_ n2_ n3_; (try clear hb); (try clear hb2); (try clear hk); (try clear hi)))
    go_ret
    exact ⟨by first | rfl | (simp [errW_none, errW_some] <;> rfl) | (simp [*, errW_none, errW_some] <;> rfl), by repeat (first | (with_reducible first | exact HB.out | apply below_alloc | apply pw_below_drewN | apply below_drew1 | refine below_set ?_ GE101.out) | exact HB.out)⟩
  replace c5 := Bool.eq_false_iff.mpr c5
  subst c5
  have H1 : ((ice_Tonight.f k l0 l1 a2_0).bind fun bt107 => ((dropperref08_Tonight.f k l0 l1 a2_0).bind fun bt111 => (if bt107.2 = bt111.2 then ((dropperlaw08_SameInts.f k bt107.1 bt111.1).bind fun t115 => (dropperlaw08_IceNights.j0 k l0 l1 (!t115) a2_0 a2_1)) else (dropperlaw08_IceNights.j0 k l0 l1 true a2_0 a2_1)))) = some r := by rw [if_neg (show ¬ (false = true) by decide)] at H; exact H
  clear H
  have H := H1
  clear H1
  replace H := Option.bind_eq_some_iff.mp H
  obtain ⟨⟨t107, t108⟩, A120, H⟩ := H
  replace H : ((dropperref08_Tonight.f k l0 l1 a2_0).bind fun bt111 => (if t108 = bt111.2 then ((dropperlaw08_SameInts.f k t107 bt111.1).bind fun t115 => (dropperlaw08_IceNights.j0 k l0 l1 (!t115) a2_0 a2_1)) else (dropperlaw08_IceNights.j0 k l0 l1 true a2_0 a2_1))) = some r := H
  have A12 := Aside0.mk A120
  clear A120
  replace H := Option.bind_eq_some_iff.mp H
  obtain ⟨⟨t111, t112⟩, A130, H⟩ := H
  replace H : (if t108 = t112 then ((dropperlaw08_SameInts.f k t107 t111).bind fun t115 => (dropperlaw08_IceNights.j0 k l0 l1 (!t115) a2_0 a2_1)) else (dropperlaw08_IceNights.j0 k l0 l1 true a2_0 a2_1)) = some r := H
  have A13 := Aside0.mk A130
  clear A130
  have HC14 := Aside0.mk H
  clear H
  go_enter Try.func7, Try.ntmps7
  go_upto_region 5 with (first | ((with_reducible refine gate_dst (N := 5) rfl ?_); refine box_event ?hg (N := 5) ?hd (cs := #[.int .i64 a2_0, .int .i64 a2_1]) (t := 41) ?hr ?_; (case hd => rfl); (case hg => rfl); (case hr => first | (go_simp; done) | (go_simp; rfl)); intro gb101 hg w15 hbox hb; have n0_ := Aside0.mk (Kd.V_below (Kd.V_elderB (by (with_reducible repeat (first | apply Kd.V_alloc | apply Kd.V_drewN | apply Kd.V_drew)); exact HO1.out) gb101 (Nat.le_of_eq hg.symm)) hb); have n1_ := Aside0.mk (below_step (by repeat (first | (with_reducible first | exact HB.out | apply below_alloc | apply pw_below_drewN | apply below_drew1) | exact HB.out)) hb); have n2_ := Aside0.mk (hbox); have n3_ := Aside0.mk ((by rw [hg]; exact (below_size (by repeat (first | (with_reducible first | exact HB.out | apply below_alloc | apply pw_below_drewN | apply below_drew1) | exact HB.out))) : w.heap.size ≤ gb101)); have n4_ := Aside0.mk ((by rw [hg]; exact (below_size (by repeat (first | (with_reducible first | exact HB.out | apply below_alloc | apply pw_below_drewN | apply below_drew1) | exact HB.out))) : w.heap.size ≤ gb101)); clear HO1; clear HB; have HO1 := n0_; have HB := n1_; have BK101 := n2_; have GW101 := n3_; have GE101 := n4_; clear n0_ n1_ n2_ n3_ n4_; clear hb hbox hg) | ((with_reducible refine gate_dst (N := 17) rfl ?_); refine Kd.N_lit (Kd.slice 3 (Kd.int .i64)) _ 22 ?hg (N' := 17) ?hd (xs := ([l1] : List (List Int))) (inner := [.slice A1 l1.length c1]) (ok := (fun k_ => (P1_ k_ ∨ w.heap.size ≤ k_) ∧ k_ ≠ gb101)) (okp := (fun k_ => (P1_ k_ ∨ w.heap.size ≤ k_) ∧ k_ ≠ gb101)) ?hr ?hp (fun _ hk => hk) ((show ∀ k_, w15.heap.size ≤ k_ → (fun k_ => (P1_ k_ ∨ w.heap.size ≤ k_) ∧ k_ ≠ gb101) k_ from fun k_ hk => ⟨(.inr (Nat.le_trans (below_size (by repeat (first | (with_reducible first | exact HB.out | apply below_alloc | apply pw_below_drewN | apply below_drew1 | refine below_set ?_ GE101.out) | exact HB.out))) hk)), Kd.freshB (g := gb101) (o := .cells #[.int .i64 a2_0, .int .i64 a2_1] 41 (0, 0)) (bkU BK101) k_ hk⟩) _ (Nat.le_refl _)) (Below.refl _ _) (Nat.le_refl _) (by simp) ?_; (case hd => rfl); (case hg => rfl); (case hr => first | (go_simp; done) | (go_simp; rfl)); (case hp => exact (Reps.one (show Kd.FK (Kd.slice 3 (Kd.int .i64)) _ _ l1 [.slice A1 l1.length c1] from (Kd.FK_slice_mk (Kd.V_reads' HO1.out).2.1 (Kd.V_F (Kd.V_mono (ok' := (fun k_ => (P1_ k_ ∨ w.heap.size ≤ k_) ∧ k_ ≠ gb101)) ((show Kd.V (Kd.int .i64) 3 _ _ (fun k_ => ((P1_ k_ ∨ w.heap.size ≤ k_) ∧ k_ ≠ gb101)) (.slice A1 l1.length c1) l1 from by (with_reducible repeat (first | apply Kd.V_alloc | apply Kd.V_drewN | apply Kd.V_drew)); exact HO1.out)) (fun k_ hk => ⟨hk.1, hk.2⟩))))) (Reps.none _ _))); intro v103 w16 ho17 hb hg_ hnew_; clear hg_ hnew_; (first | rw [← Ny102.out] at ho17 | (simp only [Int.reduceToNat] at ho17; rw [← Ny102.out] at ho17)); have n0_ := Aside0.mk (Kd.V_elder' (by (with_reducible repeat (first | apply Kd.V_alloc | apply Kd.V_drewN | apply Kd.V_drew)); exact HO1.out) (Kd.N_base ho17) hb); have n1_ := Aside0.mk (Kd.N_lower ho17 (below_size (by repeat (first | (with_reducible first | exact HB.out | apply below_alloc | apply pw_below_drewN | apply below_drew1 | refine below_set ?_ GE101.out) | exact HB.out)))); have n2_ := Aside0.mk (bkB BK101 hb); have n3_ := Aside0.mk (below_step (by repeat (first | (with_reducible first | exact HB.out | apply below_alloc | apply pw_below_drewN | apply below_drew1 | refine below_set ?_ GE101.out) | exact HB.out)) hb); clear HO1; clear BK101; clear HB; have HO1 := n0_; have HO104 := n1_; have BK101 := n2_; have HB := n3_; clear n0_ n1_ n2_ n3_; clear hb ho17; obtain ⟨Ao18, co18, eo18⟩ := Kd.N_slice HO104.out; subst eo18) | ((with_reducible refine gate_callee (f := 20) rfl ?_); refine goesL_ (some 18) rfl rfl Try.func20 (by kernel_rfl) rfl #[.slice A0 l0.length c0, .slice Ao18 y102.length co18] rfl (by (try simp only [List.map_toArray, List.map_cons, List.map_nil]); first | done | rfl | (simp only [List.length_drop, List.length_take]; rfl)) ?_; (with_reducible refine (dropperlaw08_Many.calls k _ _ l0 _ _ y102 false _ ?side1 ?side2 ?side3 ?side4 A4.out).mono ?_); (case side1 => repeat (first | exact (Kd.C_below HR0.out HB.out) | (with_reducible refine Kd.C_alloc ?_ _) | (with_reducible refine Kd.C_drewN ?_ _) | (with_reducible refine Kd.C_drew ?_))); (case side2 => exact HC0.out); (case side3 => repeat (first | exact (Kd.N_reads' HO104.out).2.2 | (with_reducible refine Kd.C_alloc ?_ _) | (with_reducible refine Kd.C_drewN ?_ _) | (with_reducible refine Kd.C_drew ?_))); (case side4 => exact (Kd.N_reads' HO104.out).2.1); rintro e w' ⟨rfl, ⟨nd, rfl⟩⟩; refine ⟨_, rfl, ?_⟩; have hcz19_0 : w16.cell? ⟨gb101, 0, none⟩ = some (.int .i64 a2_0) := (blk_cell BK101.out 0).trans rfl; have hcz19_1 : w16.cell? ⟨gb101, 1, none⟩ = some (.int .i64 a2_1) := (blk_cell BK101.out 1).trans rfl; have hfz19_0 := blk_frozen BK101.out 0; have hfz19_1 := blk_frozen BK101.out 1) | ((with_reducible refine gate_callee (f := 35) rfl ?_); refine goesL_ (some 25) rfl rfl Try.func35 (by kernel_rfl) rfl #[.slice A0 l0.length c0, .slice A1 l1.length c1, .int .i64 a2_0] rfl (by (try simp only [List.map_toArray, List.map_cons, List.map_nil]); first | done | rfl | (simp only [List.length_drop, List.length_take]; rfl)) ?_; (with_reducible refine (ice_Tonight.calls k _ _ l0 _ _ l1 a2_0 t107 t108 _ ?side1 ?side2 ?side3 ?side4 A12.out).mono ?_); (case side1 => repeat (first | exact (Kd.C_below HR0.out (by repeat (first | (with_reducible first | exact HB.out | apply below_alloc | apply pw_below_drewN | apply below_drew1 | refine below_set ?_ GE101.out) | exact HB.out))) | (with_reducible refine Kd.C_alloc ?_ _) | (with_reducible refine Kd.C_drewN ?_ _) | (with_reducible refine Kd.C_drew ?_))); (case side2 => exact HC0.out); (case side3 => repeat (first | exact (Kd.V_reads' HO1.out).2.2 | (with_reducible refine Kd.C_alloc ?_ _) | (with_reducible refine Kd.C_drewN ?_ _) | (with_reducible refine Kd.C_drew ?_))); (case side4 => exact (Kd.V_reads' HO1.out).2.1); rintro e w20 ⟨v109, rfl, ho0, hb⟩; refine ⟨_, rfl, ?_⟩; have n0_ := Aside0.mk (Kd.V_elder' (by (with_reducible repeat (first | apply Kd.V_alloc | apply Kd.V_drewN | apply Kd.V_drew)); exact HO1.out) (Kd.R_base ho0) hb); have n1_ := Aside0.mk (Kd.N_elder' (by (with_reducible repeat (first | apply Kd.N_alloc | apply Kd.N_drewN | apply Kd.N_drew)); exact HO104.out) (Kd.R_base ho0) hb); have n2_ := Aside0.mk (Kd.R_lower (Kd.R_newM (M := fun k_ => (w.heap.size ≤ k_)) ho0 (below_size (by repeat (first | (with_reducible first | exact HB.out | apply below_alloc | apply pw_below_drewN | apply below_drew1 | refine below_set ?_ GE101.out) | exact HB.out))) (fun k_ h_ => h_)) (below_size (by repeat (first | (with_reducible first | exact HB.out | apply below_alloc | apply pw_below_drewN | apply below_drew1 | refine below_set ?_ GE101.out) | exact HB.out)))); have n3_ := Aside0.mk (bkB BK101 hb); have n4_ := Aside0.mk (below_step (by repeat (first | (with_reducible first | exact HB.out | apply below_alloc | apply pw_below_drewN | apply below_drew1 | refine below_set ?_ GE101.out) | exact HB.out)) hb); clear HO1; clear HO104; clear BK101; clear HB; have HO1 := n0_; have HO104 := n1_; have HO110 := n2_; have BK101 := n3_; have HB := n4_; clear n0_ n1_ n2_ n3_ n4_; (try clear hb); (try clear hb2); (try clear hk); (try clear hi); (try clear ho0); have hcz21_0 : w20.cell? ⟨gb101, 0, none⟩ = some (.int .i64 a2_0) := (blk_cell BK101.out 0).trans rfl; have hcz21_1 : w20.cell? ⟨gb101, 1, none⟩ = some (.int .i64 a2_1) := (blk_cell BK101.out 1).trans rfl; have hfz21_0 := blk_frozen BK101.out 0; have hfz21_1 := blk_frozen BK101.out 1) | ((with_reducible refine gate_callee (f := 36) rfl ?_); refine goesL_ (some 33) rfl rfl Try.func36 (by kernel_rfl) rfl #[.slice A0 l0.length c0, .slice A1 l1.length c1, .int .i64 a2_0] rfl (by (try simp only [List.map_toArray, List.map_cons, List.map_nil]); first | done | rfl | (simp only [List.length_drop, List.length_take]; rfl)) ?_; (with_reducible refine (dropperref08_Tonight.calls k _ _ l0 _ _ l1 a2_0 t111 t112 _ ?side1 ?side2 ?side3 ?side4 A13.out).mono ?_); (case side1 => repeat (first | exact (Kd.C_below HR0.out HB.out) | (with_reducible refine Kd.C_alloc ?_ _) | (with_reducible refine Kd.C_drewN ?_ _) | (with_reducible refine Kd.C_drew ?_))); (case side2 => exact HC0.out); (case side3 => repeat (first | exact (Kd.V_reads' HO1.out).2.2 | (with_reducible refine Kd.C_alloc ?_ _) | (with_reducible refine Kd.C_drewN ?_ _) | (with_reducible refine Kd.C_drew ?_))); (case side4 => exact (Kd.V_reads' HO1.out).2.1); rintro e w22 ⟨v113, rfl, ho0, hb⟩; refine ⟨_, rfl, ?_⟩; have n0_ := Aside0.mk (Kd.V_elder' (by (with_reducible repeat (first | apply Kd.V_alloc | apply Kd.V_drewN | apply Kd.V_drew)); exact HO1.out) (Kd.R_base ho0) hb); have n1_ := Aside0.mk (Kd.N_elder' (by (with_reducible repeat (first | apply Kd.N_alloc | apply Kd.N_drewN | apply Kd.N_drew)); exact HO104.out) (Kd.R_base ho0) hb); have n2_ := Aside0.mk (Kd.R_elder' (by (with_reducible repeat (first | apply Kd.R_alloc | apply Kd.R_drewN | apply Kd.R_drew)); exact HO110.out) (Kd.R_base ho0) hb); have n3_ := Aside0.mk (Kd.R_lower (Kd.R_new' (Kd.R_newM (M := fun k_ => (w.heap.size ≤ k_)) ho0 (below_size (by repeat (first | (with_reducible first | exact HB.out | apply below_alloc | apply pw_below_drewN | apply below_drew1 | refine below_set ?_ GE101.out) | exact HB.out))) (fun k_ h_ => h_)) (Kd.R_lt (by (with_reducible repeat (first | apply Kd.R_alloc | apply Kd.R_drewN | apply Kd.R_drew)); exact HO110.out))) (below_size (by repeat (first | (with_reducible first | exact HB.out | apply below_alloc | apply pw_below_drewN | apply below_drew1 | refine below_set ?_ GE101.out) | exact HB.out)))); have n4_ := Aside0.mk (bkB BK101 hb); have n5_ := Aside0.mk (below_step (by repeat (first | (with_reducible first | exact HB.out | apply below_alloc | apply pw_below_drewN | apply below_drew1 | refine below_set ?_ GE101.out) | exact HB.out)) hb); clear HO1; clear HO104; clear HO110; clear BK101; clear HB; have HO1 := n0_; have HO104 := n1_; have HO110 := n2_; have HO114 := n3_; have BK101 := n4_; have HB := n5_; clear n0_ n1_ n2_ n3_ n4_ n5_; (try clear hb); (try clear hb2); (try clear hk); (try clear hi); (try clear ho0)))
  (try simp only [Act.put, List.setIfInBounds_toArray, List.set_cons_zero, List.set_cons_succ])
  go_cut [44] (fun v44 wc => ∃ (kq : Nat) (x44_13 : Bool), v44 = .bool x44_13 ∧ Aside0 (dropperlaw08_IceNights.j0 kq l0 l1 x44_13 a2_0 a2_1 = some r) ∧ Aside0 (kq ≤ k) ∧ Aside0 (Kd.V (Kd.int .i64) 3 wc w.heap.size (fun k_ => (P1_ k_ ∨ w.heap.size ≤ k_) ∧ k_ ≠ gb101) (.slice A1 l1.length c1) l1) ∧ Aside0 (wc.heap[gb101]? = some (.cells #[.int .i64 a2_0, .int .i64 a2_1] 41 (0, 0))) ∧ Aside0 (Below w.heap.size w wc))
  case first =>
    have H := HC14.out
    clear HC14
    by_cases c23 : t108 = t112
    rotate_left
    · rw [if_neg c23] at H
      have c23b0 : (t108 == t112) = false := beq_eq_false_iff_ne.mpr c23
      have c23b1 : (t108 != t112) = true := bne_iff_ne.mpr c23
      (first | rw [c23b0] | (simp only [i64_w, i32_w]; rw [c23b0]) | skip)
      exact absurd (H.trans (congrArg some hT)) (dropperlaw08_IceNights.j0_no _ _ _ _ _)
    rw [if_pos c23] at H
    have c23b0 : (t108 == t112) = true := beq_iff_eq.mpr c23
    have c23b1 : (t108 != t112) = false := bne_eq_false_iff_eq.mpr c23
    clear c23
    (first | rw [c23b0] | (simp only [i64_w, i32_w]; rw [c23b0]) | skip)
    replace H := Option.bind_eq_some_iff.mp H
    obtain ⟨t115, A240, H⟩ := H
    replace H : (dropperlaw08_IceNights.j0 k l0 l1 (!t115) a2_0 a2_1) = some r := H
    have A24 := Aside0.mk A240
    clear A240
    have H' := Aside0.mk H
    clear H
    obtain ⟨Ao25, co25, eo25⟩ := Kd.R_slice HO110.out
    subst eo25
    obtain ⟨Ao26, co26, eo26⟩ := Kd.R_slice HO114.out
    subst eo26
    go_wp2_with (first | (go_at_call 15; (with_reducible refine (dropperlaw08_SameInts.calls k _ _ t107 _ _ t111 t115 _ ?side1 ?side2 ?side3 ?side4 A24.out).mono ?_); (case side1 => repeat (first | exact (Kd.R_reads' HO110.out).2.2 | (with_reducible refine Kd.C_alloc ?_ _) | (with_reducible refine Kd.C_drewN ?_ _) | (with_reducible refine Kd.C_drew ?_))); (case side2 => exact (Kd.R_reads' HO110.out).2.1); (case side3 => repeat (first | exact (Kd.R_reads' HO114.out).2.2 | (with_reducible refine Kd.C_alloc ?_ _) | (with_reducible refine Kd.C_drewN ?_ _) | (with_reducible refine Kd.C_drew ?_))); (case side4 => exact (Kd.R_reads' HO114.out).2.1); rintro e w' ⟨rfl, ⟨nd, rfl⟩⟩))
    go_meet
    case rel => exact ⟨_, (!t115), (by first | rfl | (simp; done) | (simp [*]; done)), H', ⟨by first | omega | exact Nat.le_refl _⟩, ⟨by (with_reducible repeat (first | apply Kd.V_alloc | apply Kd.V_drewN | apply Kd.V_drew)); exact Kd.V_mono HO1.out (fun _ hk => ⟨hk.1.1.1.1, hk.1.1.1.2⟩)⟩, ⟨bkU BK101⟩, ⟨by repeat (first | (with_reducible first | exact HB.out | apply below_alloc | apply pw_below_drewN | apply below_drew1 | refine below_set ?_ GE101.out) | exact HB.out)⟩⟩
  case rest =>
    clear HC14
    try clear c1
    try clear c2
    try clear p2
    try clear c3
    try clear c5
    try clear c7
    try clear c12
    try clear c20
    try clear c23
    try clear c23b0
    try clear c23b1
    try clear hcz19_0
    try clear hcz19_1
    try clear hcz21_0
    try clear hcz21_1
    try clear hfz19_0
    try clear hfz19_1
    try clear hfz21_0
    try clear hfz21_1
    obtain ⟨kq, x44_13, rfl, HA, HJ13, HO_1, BK101, HB⟩ := hcut
    cases kq with
    | zero => exact absurd HA.out (by simp [dropperlaw08_IceNights.j0])
    | succ kj13 =>
      have H := HA.out
      clear HA
      simp only [dropperlaw08_IceNights.j0] at H
      by_cases c27 : x44_13 = true
      · subst c27
        have H1 : (some false) = some r := by rw [if_pos rfl] at H; exact H
        clear H
        have H := H1
        clear H1
        exact absurd (hT.symm.trans (Option.some.inj H).symm) (by decide)
      replace c27 := Bool.eq_false_iff.mpr c27
      subst c27
      have H1 : ((ice_Choices.f kj13 l0 l1).bind fun bt116 => ((dropperref08_Choices.f kj13 l0 l1).bind fun bt120 => ((ice_For.f kj13 l0 l1 a2_1).bind fun bt124 => ((dropperref08_For.f kj13 l0 l1 a2_1).bind fun bt126 => (if bt116.2 = bt120.2 then ((dropperlaw08_SameInts.f kj13 bt116.1 bt120.1).bind fun t128 => (if t128 = true then (if (bt124.1 == bt126.1) = true then (if bt124.2 = bt126.2 then ((dropperlaw08_Awake.f kj13).bind fun t129 => (some t129)) else (some false)) else (some false)) else (some false))) else (some false)))))) = some r := by rw [if_neg (show ¬ (false = true) by decide)] at H; exact H
      clear H
      have H := H1
      clear H1
      replace H := Option.bind_eq_some_iff.mp H
      obtain ⟨⟨t116, t117⟩, A280, H⟩ := H
      replace H : ((dropperref08_Choices.f kj13 l0 l1).bind fun bt120 => ((ice_For.f kj13 l0 l1 a2_1).bind fun bt124 => ((dropperref08_For.f kj13 l0 l1 a2_1).bind fun bt126 => (if t117 = bt120.2 then ((dropperlaw08_SameInts.f kj13 t116 bt120.1).bind fun t128 => (if t128 = true then (if (bt124.1 == bt126.1) = true then (if bt124.2 = bt126.2 then ((dropperlaw08_Awake.f kj13).bind fun t129 => (some t129)) else (some false)) else (some false)) else (some false))) else (some false))))) = some r := H
      have A28 := Aside0.mk A280
      clear A280
      replace H := Option.bind_eq_some_iff.mp H
      obtain ⟨⟨t120, t121⟩, A290, H⟩ := H
      replace H : ((ice_For.f kj13 l0 l1 a2_1).bind fun bt124 => ((dropperref08_For.f kj13 l0 l1 a2_1).bind fun bt126 => (if t117 = t121 then ((dropperlaw08_SameInts.f kj13 t116 t120).bind fun t128 => (if t128 = true then (if (bt124.1 == bt126.1) = true then (if bt124.2 = bt126.2 then ((dropperlaw08_Awake.f kj13).bind fun t129 => (some t129)) else (some false)) else (some false)) else (some false))) else (some false)))) = some r := H
      have A29 := Aside0.mk A290
      clear A290
      replace H := Option.bind_eq_some_iff.mp H
      obtain ⟨⟨t124, t125⟩, A300, H⟩ := H
      replace H : ((dropperref08_For.f kj13 l0 l1 a2_1).bind fun bt126 => (if t117 = t121 then ((dropperlaw08_SameInts.f kj13 t116 t120).bind fun t128 => (if t128 = true then (if (t124 == bt126.1) = true then (if t125 = bt126.2 then ((dropperlaw08_Awake.f kj13).bind fun t129 => (some t129)) else (some false)) else (some false)) else (some false))) else (some false))) = some r := H
      have A30 := Aside0.mk A300
      clear A300
      replace H := Option.bind_eq_some_iff.mp H
      obtain ⟨⟨t126, t127⟩, A310, H⟩ := H
      replace H : (if t117 = t121 then ((dropperlaw08_SameInts.f kj13 t116 t120).bind fun t128 => (if t128 = true then (if (t124 == t126) = true then (if t125 = t127 then ((dropperlaw08_Awake.f kj13).bind fun t129 => (some t129)) else (some false)) else (some false)) else (some false))) else (some false)) = some r := H
      have A31 := Aside0.mk A310
      clear A310
      by_cases c32 : t117 = t121
      rotate_left
      · rw [if_neg c32] at H
        have c32b0 : (t117 == t121) = false := beq_eq_false_iff_ne.mpr c32
        have c32b1 : (t117 != t121) = true := bne_iff_ne.mpr c32
        exact absurd (hT.symm.trans (Option.some.inj H).symm) (by decide)

      rw [if_pos c32] at H
      have c32b0 : (t117 == t121) = true := beq_iff_eq.mpr c32
      have c32b1 : (t117 != t121) = false := bne_eq_false_iff_eq.mpr c32
      clear c32
      replace H := Option.bind_eq_some_iff.mp H
      obtain ⟨t128, A330, H⟩ := H
      replace H : (if t128 = true then (if (t124 == t126) = true then (if t125 = t127 then ((dropperlaw08_Awake.f kj13).bind fun t129 => (some t129)) else (some false)) else (some false)) else (some false)) = some r := H
      have A33 := Aside0.mk A330
      clear A330
      by_cases c34 : t128 = true
      rotate_left
      · replace c34 := Bool.eq_false_iff.mpr c34
        subst c34
        have H1 : (some false) = some r := by rw [if_neg (show ¬ (false = true) by decide)] at H; exact H
        clear H
        have H := H1
        clear H1
        exact absurd (hT.symm.trans (Option.some.inj H).symm) (by decide)
      subst c34
      have H1 : (if (t124 == t126) = true then (if t125 = t127 then ((dropperlaw08_Awake.f kj13).bind fun t129 => (some t129)) else (some false)) else (some false)) = some r := by rw [if_pos rfl] at H; exact H
      clear H
      have H := H1
      clear H1
      by_cases c35 : (t124 == t126) = true
      rotate_left
      · rw [if_neg c35] at H
        have c35b0 : (t124 == t126) = false := by simpa using c35
        (try (have c35b1 : decide (t124 = t126) = false := by simpa using c35))
        (try (have c35b2 : (t124 == t126) = false := by simpa using c35))
        (try (have c35b3 : ¬ (t124 = t126) := by simpa using c35))
        clear c35
        exact absurd (hT.symm.trans (Option.some.inj H).symm) (by decide)
      rw [if_pos c35] at H
      have c35b0 : (t124 == t126) = true := c35
      (try (have c35b1 : decide (t124 = t126) = true := by simpa using c35))
      (try (have c35b2 : (t124 == t126) = true := by simpa using c35))
      clear c35
      by_cases c36 : t125 = t127
      rotate_left
      · rw [if_neg c36] at H
        have c36b0 : (t125 == t127) = false := beq_eq_false_iff_ne.mpr c36
        have c36b1 : (t125 != t127) = true := bne_iff_ne.mpr c36
        exact absurd (hT.symm.trans (Option.some.inj H).symm) (by decide)
      rw [if_pos c36] at H
      have c36b0 : (t125 == t127) = true := beq_iff_eq.mpr c36
      have c36b1 : (t125 != t127) = false := bne_eq_false_iff_eq.mpr c36
      clear c36
      replace H := Option.bind_eq_some_iff.mp H
      obtain ⟨t129, A370, H⟩ := H
      replace H : (some t129) = some r := H
      have A37 := Aside0.mk A370
      clear A370
      clear hT
      obtain rfl := Option.some.inj H
      go_wp2_with (first | ((with_reducible refine gate_callee (f := 37) rfl ?_); refine goesL_ (some 48) rfl rfl Try.func37 (by kernel_rfl) rfl #[.slice A0 l0.length c0, .slice A1 l1.length c1] rfl (by (try simp only [List.map_toArray, List.map_cons, List.map_nil]); first | done | rfl | (simp only [List.length_drop, List.length_take]; rfl)) ?_; (with_reducible refine (ice_Choices.calls kj13 _ _ l0 _ _ l1 t116 t117 _ ?side1 ?side2 ?side3 ?side4 A28.out).mono ?_); (case side1 => repeat (first | exact (Kd.C_below HR0.out HB.out) | (with_reducible refine Kd.C_alloc ?_ _) | (with_reducible refine Kd.C_drewN ?_ _) | (with_reducible refine Kd.C_drew ?_))); (case side2 => exact HC0.out); (case side3 => repeat (first | exact (Kd.V_reads' HO_1.out).2.2 | (with_reducible refine Kd.C_alloc ?_ _) | (with_reducible refine Kd.C_drewN ?_ _) | (with_reducible refine Kd.C_drew ?_))); (case side4 => exact (Kd.V_reads' HO_1.out).2.1); rintro e w38 ⟨v118, rfl, ho0, hb⟩; refine ⟨_, rfl, ?_⟩; have n0_ := Aside0.mk (Kd.V_elder' (by (with_reducible repeat (first | apply Kd.V_alloc | apply Kd.V_drewN | apply Kd.V_drew)); exact HO_1.out) (Kd.R_base ho0) hb); have n1_ := Aside0.mk (Kd.R_lower (Kd.R_newM (M := fun k_ => (w.heap.size ≤ k_)) ho0 (below_size (by repeat (first | (with_reducible first | exact HB.out | apply below_alloc | apply pw_below_drewN | apply below_drew1 | refine below_set ?_ GE101.out) | exact HB.out))) (fun k_ h_ => h_)) (below_size (by repeat (first | (with_reducible first | exact HB.out | apply below_alloc | apply pw_below_drewN | apply below_drew1 | refine below_set ?_ GE101.out) | exact HB.out)))); have n2_ := Aside0.mk (bkB BK101 hb); have n3_ := Aside0.mk (below_step (by repeat (first | (with_reducible first | exact HB.out | apply below_alloc | apply pw_below_drewN | apply below_drew1 | refine below_set ?_ GE101.out) | exact HB.out)) hb); clear HO_1; clear BK101; clear HB; have HO_1 := n0_; have HO119 := n1_; have BK101 := n2_; have HB := n3_; clear n0_ n1_ n2_ n3_; (try clear hb); (try clear hb2); (try clear hk); (try clear hi); (try clear ho0)) | ((with_reducible refine gate_callee (f := 38) rfl ?_); refine goesL_ (some 54) rfl rfl Try.func38 (by kernel_rfl) rfl #[.slice A0 l0.length c0, .slice A1 l1.length c1] rfl (by (try simp only [List.map_toArray, List.map_cons, List.map_nil]); first | done | rfl | (simp only [List.length_drop, List.length_take]; rfl)) ?_; (with_reducible refine (dropperref08_Choices.calls kj13 _ _ l0 _ _ l1 t120 t121 _ ?side1 ?side2 ?side3 ?side4 A29.out).mono ?_); (case side1 => repeat (first | exact (Kd.C_below HR0.out HB.out) | (with_reducible refine Kd.C_alloc ?_ _) | (with_reducible refine Kd.C_drewN ?_ _) | (with_reducible refine Kd.C_drew ?_))); (case side2 => exact HC0.out); (case side3 => repeat (first | exact (Kd.V_reads' HO_1.out).2.2 | (with_reducible refine Kd.C_alloc ?_ _) | (with_reducible refine Kd.C_drewN ?_ _) | (with_reducible refine Kd.C_drew ?_))); (case side4 => exact (Kd.V_reads' HO_1.out).2.1); rintro e w39 ⟨v122, rfl, ho0, hb⟩; refine ⟨_, rfl, ?_⟩; have n0_ := Aside0.mk (Kd.V_elder' (by (with_reducible repeat (first | apply Kd.V_alloc | apply Kd.V_drewN | apply Kd.V_drew)); exact HO_1.out) (Kd.R_base ho0) hb); have n1_ := Aside0.mk (Kd.R_elder' (by (with_reducible repeat (first | apply Kd.R_alloc | apply Kd.R_drewN | apply Kd.R_drew)); exact HO119.out) (Kd.R_base ho0) hb); have n2_ := Aside0.mk (Kd.R_lower (Kd.R_new' (Kd.R_newM (M := fun k_ => (w.heap.size ≤ k_)) ho0 (below_size (by repeat (first | (with_reducible first | exact HB.out | apply below_alloc | apply pw_below_drewN | apply below_drew1 | refine below_set ?_ GE101.out) | exact HB.out))) (fun k_ h_ => h_)) (Kd.R_lt (by (with_reducible repeat (first | apply Kd.R_alloc | apply Kd.R_drewN | apply Kd.R_drew)); exact HO119.out))) (below_size (by repeat (first | (with_reducible first | exact HB.out | apply below_alloc | apply pw_below_drewN | apply below_drew1 | refine below_set ?_ GE101.out) | exact HB.out)))); have n3_ := Aside0.mk (bkB BK101 hb); have n4_ := Aside0.mk (below_step (by repeat (first | (with_reducible first | exact HB.out | apply below_alloc | apply pw_below_drewN | apply below_drew1 | refine below_set ?_ GE101.out) | exact HB.out)) hb); clear HO_1; clear HO119; clear BK101; clear HB; have HO_1 := n0_; have HO119 := n1_; have HO123 := n2_; have BK101 := n3_; have HB := n4_; clear n0_ n1_ n2_ n3_ n4_; (try clear hb); (try clear hb2); (try clear hk); (try clear hi); (try clear ho0); have hcz40_0 : w39.cell? ⟨gb101, 0, none⟩ = some (.int .i64 a2_0) := (blk_cell BK101.out 0).trans rfl; have hcz40_1 : w39.cell? ⟨gb101, 1, none⟩ = some (.int .i64 a2_1) := (blk_cell BK101.out 1).trans rfl; have hfz40_0 := blk_frozen BK101.out 0; have hfz40_1 := blk_frozen BK101.out 1) | ((with_reducible refine gate_callee (f := 39) rfl ?_); refine goesL_ (some 62) rfl rfl Try.func39 (by kernel_rfl) rfl #[.slice A0 l0.length c0, .slice A1 l1.length c1, .int .i64 a2_1] rfl (by (try simp only [List.map_toArray, List.map_cons, List.map_nil]); first | done | rfl | (simp only [List.length_drop, List.length_take]; rfl)) ?_; (with_reducible refine (ice_For.calls kj13 _ _ l0 _ _ l1 a2_1 t124 t125 _ ?side1 ?side2 ?side3 ?side4 A30.out).mono ?_); (case side1 => repeat (first | exact (Kd.C_below HR0.out HB.out) | (with_reducible refine Kd.C_alloc ?_ _) | (with_reducible refine Kd.C_drewN ?_ _) | (with_reducible refine Kd.C_drew ?_))); (case side2 => exact HC0.out); (case side3 => repeat (first | exact (Kd.V_reads' HO_1.out).2.2 | (with_reducible refine Kd.C_alloc ?_ _) | (with_reducible refine Kd.C_drewN ?_ _) | (with_reducible refine Kd.C_drew ?_))); (case side4 => exact (Kd.V_reads' HO_1.out).2.1); rintro e w41 ⟨rfl, hb⟩; refine ⟨_, rfl, ?_⟩; have n0_ := Aside0.mk (Kd.V_below (by (with_reducible repeat (first | apply Kd.V_alloc | apply Kd.V_drewN | apply Kd.V_drew)); exact HO_1.out) hb); have n1_ := Aside0.mk (Kd.R_below (by (with_reducible repeat (first | apply Kd.R_alloc | apply Kd.R_drewN | apply Kd.R_drew)); exact HO119.out) hb); have n2_ := Aside0.mk (Kd.R_below (by (with_reducible repeat (first | apply Kd.R_alloc | apply Kd.R_drewN | apply Kd.R_drew)); exact HO123.out) hb); have n3_ := Aside0.mk (bkB BK101 hb); have n4_ := Aside0.mk (below_step (by repeat (first | (with_reducible first | exact HB.out | apply below_alloc | apply pw_below_drewN | apply below_drew1 | refine below_set ?_ GE101.out) | exact HB.out)) hb); clear HO_1; clear HO119; clear HO123; clear BK101; clear HB; have HO_1 := n0_; have HO119 := n1_; have HO123 := n2_; have BK101 := n3_; have HB := n4_; clear n0_ n1_ n2_ n3_ n4_; (try clear hb); (try clear hb2); (try clear hk); (try clear hi); have hcz42_0 : w41.cell? ⟨gb101, 0, none⟩ = some (.int .i64 a2_0) := (blk_cell BK101.out 0).trans rfl; have hcz42_1 : w41.cell? ⟨gb101, 1, none⟩ = some (.int .i64 a2_1) := (blk_cell BK101.out 1).trans rfl; have hfz42_0 := blk_frozen BK101.out 0; have hfz42_1 := blk_frozen BK101.out 1) | ((with_reducible refine gate_callee (f := 40) rfl ?_); refine goesL_ (some 70) rfl rfl Try.func40 (by kernel_rfl) rfl #[.slice A0 l0.length c0, .slice A1 l1.length c1, .int .i64 a2_1] rfl (by (try simp only [List.map_toArray, List.map_cons, List.map_nil]); first | done | rfl | (simp only [List.length_drop, List.length_take]; rfl)) ?_; (with_reducible refine (dropperref08_For.calls kj13 _ _ l0 _ _ l1 a2_1 t126 t127 _ ?side1 ?side2 ?side3 ?side4 A31.out).mono ?_); (case side1 => repeat (first | exact (Kd.C_below HR0.out HB.out) | (with_reducible refine Kd.C_alloc ?_ _) | (with_reducible refine Kd.C_drewN ?_ _) | (with_reducible refine Kd.C_drew ?_))); (case side2 => exact HC0.out); (case side3 => repeat (first | exact (Kd.V_reads' HO_1.out).2.2 | (with_reducible refine Kd.C_alloc ?_ _) | (with_reducible refine Kd.C_drewN ?_ _) | (with_reducible refine Kd.C_drew ?_))); (case side4 => exact (Kd.V_reads' HO_1.out).2.1); rintro e w43 ⟨rfl, hb⟩; refine ⟨_, rfl, ?_⟩; have n0_ := Aside0.mk (Kd.V_below (by (with_reducible repeat (first | apply Kd.V_alloc | apply Kd.V_drewN | apply Kd.V_drew)); exact HO_1.out) hb); have n1_ := Aside0.mk (Kd.R_below (by (with_reducible repeat (first | apply Kd.R_alloc | apply Kd.R_drewN | apply Kd.R_drew)); exact HO119.out) hb); have n2_ := Aside0.mk (Kd.R_below (by (with_reducible repeat (first | apply Kd.R_alloc | apply Kd.R_drewN | apply Kd.R_drew)); exact HO123.out) hb); have n3_ := Aside0.mk (bkB BK101 hb); have n4_ := Aside0.mk (below_step (by repeat (first | (with_reducible first | exact HB.out | apply below_alloc | apply pw_below_drewN | apply below_drew1 | refine below_set ?_ GE101.out) | exact HB.out)) hb); clear HO_1; clear HO119; clear HO123; clear BK101; clear HB; have HO_1 := n0_; have HO119 := n1_; have HO123 := n2_; have BK101 := n3_; have HB := n4_; clear n0_ n1_ n2_ n3_ n4_; (try clear hb); (try clear hb2); (try clear hk); (try clear hi); obtain ⟨Ao44, co44, eo44⟩ := Kd.R_slice HO119.out; subst eo44; obtain ⟨Ao45, co45, eo45⟩ := Kd.R_slice HO123.out; subst eo45) | (go_at_call 15; (with_reducible refine (dropperlaw08_SameInts.calls kj13 _ _ t116 _ _ t120 true _ ?side1 ?side2 ?side3 ?side4 A33.out).mono ?_); (case side1 => repeat (first | exact (Kd.R_reads' HO119.out).2.2 | (with_reducible refine Kd.C_alloc ?_ _) | (with_reducible refine Kd.C_drewN ?_ _) | (with_reducible refine Kd.C_drew ?_))); (case side2 => exact (Kd.R_reads' HO119.out).2.1); (case side3 => repeat (first | exact (Kd.R_reads' HO123.out).2.2 | (with_reducible refine Kd.C_alloc ?_ _) | (with_reducible refine Kd.C_drewN ?_ _) | (with_reducible refine Kd.C_drew ?_))); (case side4 => exact (Kd.R_reads' HO123.out).2.1); rintro e w' ⟨rfl, ⟨nd, rfl⟩⟩) | (go_at_call 12; (with_reducible refine (dropperlaw08_Awake.calls kj13  t129 _ A37.out).mono ?_); rintro e w46 ⟨rfl, hb⟩; have n0_ := Aside0.mk (Kd.V_below (by (with_reducible repeat (first | apply Kd.V_alloc | apply Kd.V_drewN | apply Kd.V_drew)); exact HO_1.out) hb); have n1_ := Aside0.mk (Kd.R_below (by (with_reducible repeat (first | apply Kd.R_alloc | apply Kd.R_drewN | apply Kd.R_drew)); exact HO119.out) hb); have n2_ := Aside0.mk (Kd.R_below (by (with_reducible repeat (first | apply Kd.R_alloc | apply Kd.R_drewN | apply Kd.R_drew)); exact HO123.out) hb); have n3_ := Aside0.mk (bkB BK101 hb); have n4_ := Aside0.mk (below_step (by repeat (first | (with_reducible first | exact HB.out | apply below_alloc | apply pw_below_drewN | apply below_drew1 | refine below_set ?_ GE101.out) | exact HB.out)) hb); clear HO_1; clear HO119; clear HO123; clear BK101; clear HB; have HO_1 := n0_; have HO119 := n1_; have HO123 := n2_; have BK101 := n3_; have HB := n4_; clear n0_ n1_ n2_ n3_ n4_; (try clear hb); (try clear hb2); (try clear hk); (try clear hi)))
      go_ret
      exact ⟨by first | rfl | (simp [errW_none, errW_some] <;> rfl) | (simp [*, errW_none, errW_some] <;> rfl), by repeat (first | (with_reducible first | exact HB.out | apply below_alloc | apply pw_below_drewN | apply below_drew1 | refine below_set ?_ GE101.out) | exact HB.out)⟩
end Go.Proofs.Ythbpibdfookbmaa.G
